/- Lines and declarations, by their cells. -/
import Derived.Test.YtefdjkakojfhnaaDoorMade
namespace Go.Am
open Go Go.Proofs
set_option maxRecDepth 100000
set_option linter.unusedVariables false
set_option linter.unusedSimpArgs false
structure Dc where
  word : Int
  line : Int
  names : List (List UInt8)
  nums : List Int
  deriving DecidableEq
def dc0 : Dc := ⟨0, 0, [], []⟩
def Dc.d (x : Dc) : D := .agg [.p (.int .i64 x.word), .p (.int .i64 x.line), .p (.sl (encS x.names)), .p (.sl (encI x.nums))]
structure Ln where
  num : Int
  fs : List (List UInt8)
  deriving DecidableEq
def ln0 : Ln := ⟨0, []⟩
def encL (l : List Ln) : List (List Pd) := l.map fun x => [.int .i64 x.num, .sl (encS x.fs)]
theorem encL_len (l : List Ln) : (encL l).length = l.length := by simp [encL]
theorem encL_get (l : List Ln) (i : Nat) (h : i < l.length) : (encL l).getD i [] = [.int .i64 (l.getD i ln0).num, .sl (encS (l.getD i ln0).fs)] := by simp [encL, List.getD, h]
theorem encL_snoc (l : List Ln) (x : Ln) : encL (l ++ [x]) = encL l ++ [[.int .i64 x.num, .sl (encS x.fs)]] := by simp [encL]
theorem encL_take (l : List Ln) (n : Nat) (h : l.length ≤ n) : (encL l).take n = encL l := List.take_of_length_le (by simpa [encL] using h)
def encC (l : List Dc) : List (List Pd) := l.map fun x => [.int .i64 x.word, .int .i64 x.line, .sl (encS x.names), .sl (encI x.nums)]
theorem encC_len (l : List Dc) : (encC l).length = l.length := by simp [encC]
theorem encC_get (l : List Dc) (i : Nat) (h : i < l.length) : (encC l).getD i [] = [.int .i64 (l.getD i dc0).word, .int .i64 (l.getD i dc0).line, .sl (encS (l.getD i dc0).names), .sl (encI (l.getD i dc0).nums)] := by simp [encC, List.getD, h]
theorem encC_snoc (l : List Dc) (x : Dc) : encC (l ++ [x]) = encC l ++ [[.int .i64 x.word, .int .i64 x.line, .sl (encS x.names), .sl (encI x.nums)]] := by simp [encC]
theorem encC_take (l : List Dc) (n : Nat) (h : l.length ≤ n) : (encC l).take n = encC l := List.take_of_length_le (by simpa [encC] using h)
end Go.Am

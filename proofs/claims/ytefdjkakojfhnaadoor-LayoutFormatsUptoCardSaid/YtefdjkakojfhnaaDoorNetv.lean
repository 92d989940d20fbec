/- Networks, by their cells. -/
import Derived.Test.YtefdjkakojfhnaaDoorKnol
namespace Go.Am
open Go Go.Proofs
set_option maxRecDepth 100000
set_option linter.unusedVariables false
set_option linter.unusedSimpArgs false
structure Blk where
  name : List UInt8
  x : Int
  y : Int
  deriving DecidableEq
structure Spr where
  name : List UInt8
  depot : Bool
  inn : Int
  out : Int
  slots : Int
  base : Int
  deriving DecidableEq
structure Nt where
  blocks : List Blk
  next : List (List Int)
  spurs : List Spr
  robots : List Int
  cq : Int
  ca : Int
  cd : Int
  cp : Int
  deriving DecidableEq
def blk0 : Blk := ⟨[], 0, 0⟩
def spr0 : Spr := ⟨[], false, 0, 0, 0, 0⟩
def encK (l : List Blk) : List (List Pd) := l.map fun b => [.str b.name, .int .i64 b.x, .int .i64 b.y]
def encG (l : List (List Int)) : List (List Pd) := l.map fun r => [.sl (encI r)]
def encP (l : List Spr) : List (List Pd) := l.map fun s => [.str s.name, .bool s.depot, .int .i64 s.inn, .int .i64 s.out, .int .i64 s.slots, .int .i64 s.base]
theorem encK_len (l : List Blk) : (encK l).length = l.length := by simp [encK]
theorem encG_len (l : List (List Int)) : (encG l).length = l.length := by simp [encG]
theorem encP_len (l : List Spr) : (encP l).length = l.length := by simp [encP]
theorem encK_get (l : List Blk) (i : Nat) (h : i < l.length) : (encK l).getD i [] = [.str (l.getD i blk0).name, .int .i64 (l.getD i blk0).x, .int .i64 (l.getD i blk0).y] := by simp [encK, List.getD, h]
theorem encG_get (l : List (List Int)) (i : Nat) (h : i < l.length) : (encG l).getD i [] = [.sl (encI (l.getD i []))] := by simp [encG, List.getD, h]
theorem encP_get (l : List Spr) (i : Nat) (h : i < l.length) : (encP l).getD i [] = [.str (l.getD i spr0).name, .bool (l.getD i spr0).depot, .int .i64 (l.getD i spr0).inn, .int .i64 (l.getD i spr0).out, .int .i64 (l.getD i spr0).slots, .int .i64 (l.getD i spr0).base] := by simp [encP, List.getD, h]
theorem encK_snoc (l : List Blk) (b : Blk) : encK (l ++ [b]) = encK l ++ [[.str b.name, .int .i64 b.x, .int .i64 b.y]] := by simp [encK]
theorem encG_snoc (l : List (List Int)) (r : List Int) : encG (l ++ [r]) = encG l ++ [[.sl (encI r)]] := by simp [encG]
theorem encP_snoc (l : List Spr) (s : Spr) : encP (l ++ [s]) = encP l ++ [[.str s.name, .bool s.depot, .int .i64 s.inn, .int .i64 s.out, .int .i64 s.slots, .int .i64 s.base]] := by simp [encP]
theorem encK_take (l : List Blk) (n : Nat) (h : l.length ≤ n) : (encK l).take n = encK l := List.take_of_length_le (by simpa [encK] using h)
theorem encG_take (l : List (List Int)) (n : Nat) (h : l.length ≤ n) : (encG l).take n = encG l := List.take_of_length_le (by simpa [encG] using h)
theorem encP_take (l : List Spr) (n : Nat) (h : l.length ≤ n) : (encP l).take n = encP l := List.take_of_length_le (by simpa [encP] using h)
theorem encG_set (l : List (List Int)) (i : Nat) (r : List Int) : encG (l.set i r) = (encG l).set i [.sl (encI r)] := by simp [encG, List.map_set]
def Nt.cs (n : Nt) : List D := [.p (.sl (encK n.blocks)), .p (.sl (encG n.next)), .p (.sl (encP n.spurs)), .p (.sl (encI n.robots)), .p (.int .i64 n.cq), .p (.int .i64 n.ca), .p (.int .i64 n.cd), .p (.int .i64 n.cp)]
/-- A number put into an ascending list. -/
def insV : List Int → Int → List Int
  | [], x => [x]
  | y :: r, x => if x < y then x :: y :: r else y :: insV r x
theorem insV_len (l : List Int) (x : Int) : (insV l x).length = l.length + 1 := by
  induction l with
  | nil => rfl
  | cons y r ih => unfold insV; split <;> simp [ih]
theorem insV_mem (l : List Int) (x z : Int) : z ∈ insV l x ↔ z = x ∨ z ∈ l := by
  induction l with
  | nil => simp [insV]
  | cons y r ih =>
    unfold insV
    split
    · simp
    · simp only [List.mem_cons, ih]; constructor <;> (rintro (h | h | h) <;> simp [h])
theorem insV_asc (l : List Int) (x : Int) (h : l.Pairwise (· < ·)) (hx : x ∉ l) : (insV l x).Pairwise (· < ·) := by
  induction l with
  | nil => simp [insV]
  | cons y r ih =>
    rw [List.pairwise_cons] at h
    unfold insV
    split
    · rename_i h1
      rw [List.pairwise_cons]
      refine ⟨fun z hz => ?_, List.pairwise_cons.2 h⟩
      rcases List.mem_cons.1 hz with rfl | hz
      · exact h1
      · have := h.1 z hz; omega
    · rename_i h1
      have hne : x ≠ y := fun e => hx (by simp [e])
      rw [List.pairwise_cons]
      refine ⟨fun z hz => ?_, ih h.2 (fun hm => hx (List.mem_cons_of_mem _ hm))⟩
      rcases (insV_mem r x z).1 hz with rfl | hz
      · omega
      · exact h.1 z hz
end Go.Am

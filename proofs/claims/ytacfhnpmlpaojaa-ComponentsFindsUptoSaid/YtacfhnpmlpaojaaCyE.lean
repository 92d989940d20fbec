/- Texts of this proof, what it rests on, merged: part E. -/
import Derived.Test.YtacfhnpmlpaojaaProg
import Derived.KernelRfl
import Derived.Test.YtacfhnpmlpaojaaCyD
section
namespace Go.Am
open Go Go.Proofs
set_option maxRecDepth 100000
theorem ti2 : tiOf Try.prog 2 = some ⟨1, 8, .int .i64, .p (.int .i64 0)⟩ := by kernel_rfl
theorem ti3 : tiOf Try.prog 3 = some ⟨1, 8, .int .i64, .p (.int .i64 0)⟩ := by kernel_rfl
theorem ti4 : tiOf Try.prog 4 = some ⟨1, 1, .bool, .p (.bool false)⟩ := by kernel_rfl
theorem ti5 : tiOf Try.prog 5 = some ⟨1, 1, .int .u8, .p (.int .u8 0)⟩ := by kernel_rfl
theorem ti9 : tiOf Try.prog 9 = some ⟨1, 16, .string, .p (.str [])⟩ := by kernel_rfl
theorem ti22 : tiOf Try.prog 22 = some ⟨1, 24, .slice 24, .cl []⟩ := by kernel_rfl
theorem ti23 : tiOf Try.prog 23 = some ⟨1, 24, .slice 4, .cl []⟩ := by kernel_rfl
theorem ti24 : tiOf Try.prog 24 = some ⟨1, 24, .slice 3, .cl []⟩ := by kernel_rfl
theorem ti28 : tiOf Try.prog 28 = some ⟨2, 32, .struct [(0, 24), (1, 3)], .agg [.cl [], .p (.int .i64 0)]⟩ := by kernel_rfl
theorem ti82 : tiOf Try.prog 82 = some ⟨9, 200, .struct [(0, 22), (1, 23), (2, 24), (3, 24), (4, 24), (5, 24), (6, 24), (7, 3), (8, 24)], .agg [.cl [], .cl [], .cl [], .cl [], .cl [], .cl [], .cl [], .p (.int .i64 0), .cl []]⟩ := by kernel_rfl
theorem ti84 : tiOf Try.prog 84 = some ⟨1, 24, .slice 23, .cl []⟩ := by kernel_rfl
theorem ti121 : tiOf Try.prog 121 = some ⟨1, 8, .int .u64, .p (.int .u64 0)⟩ := by kernel_rfl
theorem ti139 : tiOf Try.prog 139 = some ⟨1, 8, .int .u64, .p (.int .u64 0)⟩ := by kernel_rfl
theorem enters3 : Enters Try.prog 3 := fun args w => Try.call3 args w
theorem enters12 : Enters Try.prog 12 := fun args w => Try.call12 args w
theorem enters13 : Enters Try.prog 13 := fun args w => Try.call13 args w
theorem enters14 : Enters Try.prog 14 := fun args w => Try.call14 args w
theorem enters15 : Enters Try.prog 15 := fun args w => Try.call15 args w
theorem enters16 : Enters Try.prog 16 := fun args w => Try.call16 args w
theorem enters17 : Enters Try.prog 17 := fun args w => Try.call17 args w
theorem enters18 : Enters Try.prog 18 := fun args w => Try.call18 args w
theorem enters19 : Enters Try.prog 19 := fun args w => Try.call19 args w
theorem enters20 : Enters Try.prog 20 := fun args w => Try.call20 args w
theorem enters21 : Enters Try.prog 21 := fun args w => Try.call21 args w
theorem enters22 : Enters Try.prog 22 := fun args w => Try.call22 args w
theorem enters26 : Enters Try.prog 26 := fun args w => Try.call26 args w
theorem enters38 : Enters Try.prog 38 := fun args w => Try.call38 args w
theorem enters39 : Enters Try.prog 39 := fun args w => Try.call39 args w
theorem enters40 : Enters Try.prog 40 := fun args w => Try.call40 args w
theorem enters41 : Enters Try.prog 41 := fun args w => Try.call41 args w
theorem enters42 : Enters Try.prog 42 := fun args w => Try.call42 args w
theorem enters43 : Enters Try.prog 43 := fun args w => Try.call43 args w
theorem enters44 : Enters Try.prog 44 := fun args w => Try.call44 args w
theorem enters45 : Enters Try.prog 45 := fun args w => Try.call45 args w
theorem enters46 : Enters Try.prog 46 := fun args w => Try.call46 args w
theorem enters47 : Enters Try.prog 47 := fun args w => Try.call47 args w
theorem enters48 : Enters Try.prog 48 := fun args w => Try.call48 args w
theorem enters49 : Enters Try.prog 49 := fun args w => Try.call49 args w
theorem enters72 : Enters Try.prog 72 := fun args w => Try.call72 args w
theorem enters73 : Enters Try.prog 73 := fun args w => Try.call73 args w
theorem enters74 : Enters Try.prog 74 := fun args w => Try.call74 args w
theorem enters75 : Enters Try.prog 75 := fun args w => Try.call75 args w
theorem enters76 : Enters Try.prog 76 := fun args w => Try.call76 args w
theorem enters77 : Enters Try.prog 77 := fun args w => Try.call77 args w
theorem enters97 : Enters Try.prog 97 := fun args w => Try.call97 args w
theorem enters98 : Enters Try.prog 98 := fun args w => Try.call98 args w
theorem enters99 : Enters Try.prog 99 := fun args w => Try.call99 args w
theorem enters105 : Enters Try.prog 105 := fun args w => Try.call105 args w
theorem enters109 : Enters Try.prog 109 := fun args w => Try.call109 args w
theorem enters128 : Enters Try.prog 128 := fun args w => Try.call128 args w
theorem mixed : Try.prog.follows .mixedOrders = true := by kernel_rfl
attribute [go_sem] ti2 ti3 ti4 ti5 ti9 ti22 ti23 ti24
attribute [go_sem] ti28
attribute [go_sem] ti82 ti84
attribute [go_sem] ti121 ti139
attribute [go_sem] Try.ntmps2 Try.results2 Try.ntmps3 Try.results3 Try.ntmps4 Try.results4 Try.ntmps5 Try.results5
attribute [go_sem] Try.ntmps6 Try.results6 Try.ntmps7 Try.results7 Try.ntmps8 Try.results8 Try.ntmps9 Try.results9 Try.ntmps10 Try.results10 Try.ntmps11 Try.results11
attribute [go_sem] Try.ntmps12 Try.results12 Try.ntmps13 Try.results13 Try.ntmps14 Try.results14 Try.ntmps15 Try.results15 Try.ntmps16 Try.results16 Try.ntmps17 Try.results17
attribute [go_sem] Try.ntmps18 Try.results18 Try.ntmps19 Try.results19 Try.ntmps20 Try.results20 Try.ntmps21 Try.results21 Try.ntmps22 Try.results22 Try.ntmps23 Try.results23
attribute [go_sem] Try.ntmps24 Try.results24 Try.ntmps25 Try.results25 Try.ntmps26 Try.results26 Try.ntmps27 Try.results27 Try.ntmps28 Try.results28 Try.ntmps29 Try.results29
attribute [go_sem] Try.ntmps30 Try.results30 Try.ntmps31 Try.results31 Try.ntmps32 Try.results32 Try.ntmps33 Try.results33 Try.ntmps34 Try.results34 Try.ntmps35 Try.results35
attribute [go_sem] Try.ntmps36 Try.results36 Try.ntmps37 Try.results37 Try.ntmps38 Try.results38 Try.ntmps39 Try.results39 Try.ntmps40 Try.results40 Try.ntmps41 Try.results41
attribute [go_sem] Try.ntmps42 Try.results42 Try.ntmps43 Try.results43 Try.ntmps44 Try.results44 Try.ntmps45 Try.results45 Try.ntmps46 Try.results46 Try.ntmps47 Try.results47
attribute [go_sem] Try.ntmps48 Try.results48 Try.ntmps49 Try.results49 Try.ntmps50 Try.results50 Try.ntmps51 Try.results51 Try.ntmps52 Try.results52 Try.ntmps53 Try.results53
attribute [go_sem] Try.ntmps54 Try.results54 Try.ntmps55 Try.results55 Try.ntmps56 Try.results56 Try.ntmps57 Try.results57 Try.ntmps58 Try.results58 Try.ntmps59 Try.results59
attribute [go_sem] Try.ntmps60 Try.results60 Try.ntmps61 Try.results61 Try.ntmps62 Try.results62 Try.ntmps63 Try.results63 Try.ntmps64 Try.results64 Try.ntmps65 Try.results65
attribute [go_sem] Try.ntmps66 Try.results66 Try.ntmps67 Try.results67 Try.ntmps68 Try.results68 Try.ntmps69 Try.results69 Try.ntmps70 Try.results70 Try.ntmps71 Try.results71
attribute [go_sem] Try.ntmps72 Try.results72 Try.ntmps73 Try.results73 Try.ntmps74 Try.results74 Try.ntmps75 Try.results75 Try.ntmps76 Try.results76 Try.ntmps77 Try.results77
attribute [go_sem] Try.ntmps78 Try.results78 Try.ntmps79 Try.results79 Try.ntmps80 Try.results80 Try.ntmps81 Try.results81 Try.ntmps82 Try.results82 Try.ntmps83 Try.results83
attribute [go_sem] Try.ntmps84 Try.results84 Try.ntmps85 Try.results85 Try.ntmps86 Try.results86 Try.ntmps87 Try.results87 Try.ntmps88 Try.results88 Try.ntmps89 Try.results89
attribute [go_sem] Try.ntmps90 Try.results90 Try.ntmps91 Try.results91 Try.ntmps92 Try.results92 Try.ntmps93 Try.results93 Try.ntmps94 Try.results94 Try.ntmps95 Try.results95
attribute [go_sem] Try.ntmps96 Try.results96 Try.ntmps97 Try.results97 Try.ntmps98 Try.results98 Try.ntmps99 Try.results99 Try.ntmps100 Try.results100 Try.ntmps101 Try.results101
attribute [go_sem] Try.ntmps102 Try.results102 Try.ntmps103 Try.results103 Try.ntmps104 Try.results104 Try.ntmps105 Try.results105 Try.ntmps106 Try.results106 Try.ntmps107 Try.results107
attribute [go_sem] Try.ntmps108 Try.results108 Try.ntmps109 Try.results109 Try.ntmps110 Try.results110 Try.ntmps111 Try.results111 Try.ntmps112 Try.results112 Try.ntmps113 Try.results113
attribute [go_sem] Try.ntmps114 Try.results114 Try.ntmps115 Try.results115 Try.ntmps116 Try.results116 Try.ntmps117 Try.results117 Try.ntmps118 Try.results118 Try.ntmps119 Try.results119
attribute [go_sem] Try.ntmps120 Try.results120 Try.ntmps121 Try.results121 Try.ntmps122 Try.results122 Try.ntmps123 Try.results123 Try.ntmps124 Try.results124 Try.ntmps125 Try.results125
attribute [go_sem] Try.ntmps126 Try.results126 Try.ntmps127 Try.results127 Try.ntmps128 Try.results128 Try.ntmps129 Try.results129 Try.ntmps130 Try.results130 Try.ntmps131 Try.results131
attribute [go_sem] Try.ntmps132 Try.results132 Try.ntmps133 Try.results133 Try.ntmps134 Try.results134
attribute [go_sem ↓] reduceIte
attribute [go_sem] Nat.reduceLT Nat.reduceLeDiff Nat.reduceEqDiff Nat.reduceAdd Nat.reduceMul Nat.reduceSub reduceCtorEq Int.reduceLT Int.reduceLE Int.reduceEq Int.reduceToNat decide_true decide_false Int.reduceNeg Int.cast_ofNat_Int sg AO.sg Option.isNone_none
end Go.Am
end
section
namespace Go.Am
open Go Go.Proofs
set_option maxRecDepth 100000
set_option linter.unusedVariables false
set_option linter.unusedSimpArgs false
def encI (l : List Int) : List (List Pd) := l.map fun n => [.int .i64 n]
def encS (l : List (List UInt8)) : List (List Pd) := l.map fun s => [.str s]
theorem encI_len (l : List Int) : (encI l).length = l.length := by simp [encI]
theorem encI_get (l : List Int) (i : Nat) (h : i < l.length) : (encI l).getD i [] = [.int .i64 (l.getD i 0)] := by simp [encI, List.getD, h]
theorem encS_len (l : List (List UInt8)) : (encS l).length = l.length := by simp [encS]
theorem encI_snoc (l : List Int) (x : Int) : encI (l ++ [x]) = encI l ++ [[.int .i64 x]] := by simp [encI]
theorem encS_snoc (l : List (List UInt8)) (x : List UInt8) : encS (l ++ [x]) = encS l ++ [[.str x]] := by simp [encS]
theorem encI_take (l : List Int) (n : Nat) (h : l.length ≤ n) : (encI l).take n = encI l := List.take_of_length_le (by simpa [encI] using h)
theorem wid1 (n : Nat) (x : List Pd) (h : x.length = n) : Wid n [x] := by simp [Wid, h]
theorem encS_set (l : List (List UInt8)) (i : Nat) (x : List UInt8) : encS (l.set i x) = (encS l).set i [.str x] := by simp [encS, List.map_set]
theorem encI_set (l : List Int) (i : Nat) (x : Int) : encI (l.set i x) = (encI l).set i [.int .i64 x] := by simp [encI, List.map_set]
theorem getD_mem {α : Type} (l : List α) (i : Nat) (x : α) (h : i < l.length) : l.getD i x ∈ l := by simp only [List.getD, List.getElem?_eq_getElem h, Option.getD_some]; exact List.getElem_mem h
theorem drop_getD {α : Type} (l : List α) (i : Nat) (x : α) (h : i < l.length) : l.drop i = l.getD i x :: l.drop (i + 1) := by rw [List.drop_eq_getElem_cons h]; simp [List.getD, h]
def In64 (x : Int) : Prop := -9223372036854775808 ≤ x ∧ x ≤ 9223372036854775807
theorem wrap_succ (i : Nat) (h : i < 9223372036854775807) : IntKind.i64.wrap ((i : Int) + 1) = ((i + 1 : Nat) : Int) := by rw [wrap_i64_id] <;> omega
def cut (v n : Int) : Int := if n ≤ 1 then 0 else if v.tmod n < 0 then v.tmod n + n else v.tmod n
theorem cut_lt (v n : Int) : 0 ≤ cut v n ∧ (cut v n < n ∨ cut v n = 0) := by
  unfold cut
  split
  · omega
  · have h1 := Int.tmod_lt_of_pos v (show 0 < n by omega)
    have h2 := Int.lt_tmod_of_pos v (show 0 < n by omega)
    split <;> omega
theorem cut_ok (v n : Int) (hn : In64 n) : ACalls Try.prog 26 [.p (.int .i64 v), .p (.int .i64 n)] [] fun h r => h = [] ∧ r = .p (.int .i64 (cut v n)) := by
  unfold In64 at hn
  refine ACalls_X Try.func26 rfl enters26 (by simp [Try.f26]) ?_
  simp only [go_sem]
  refine Cn_split (fun h1 => ?_) (fun h1 => ?_)
  · simp only [go_sem]
    simp at h1
    simp [cut, h1]
  · simp only [go_sem]
    simp at h1
    refine ⟨by omega, ?_⟩
    refine Cn_split (fun h2 => ?_) (fun h2 => ?_)
    · simp at h2
      have h3 : IntKind.i64.wrap (v.tmod n + n) = v.tmod n + n := by
        have h4 := Int.tmod_lt_of_pos v (show 0 < n by omega)
        have h5 := Int.lt_tmod_of_pos v (show 0 < n by omega)
        rw [wrap_i64_id] <;> omega
      simp only [go_sem, h3]
      simp only [cut, h2, if_true, true_and]
      rw [if_neg (by omega)]
    · simp only [go_sem]
      simp at h2
      simp only [cut, true_and]
      rw [if_neg (by omega), if_neg (by omega)]
def nextV (l : List Int) (at_ : Nat) (n : Int) : Int := cut (if at_ < l.length then l.getD at_ 0 else ((at_ : Int) * 7).tmod 11) n
theorem nextV_lt (l : List Int) (at_ : Nat) (n : Int) : 0 ≤ nextV l at_ n ∧ (nextV l at_ n < n ∨ nextV l at_ n = 0) := cut_lt _ _
theorem nextV_rng (l : List Int) (at_ : Nat) (n : Int) (hn : 0 < n) : ∃ k : Nat, nextV l at_ n = (k : Int) ∧ (k : Int) < n := by
  have h := nextV_lt l at_ n
  exact ⟨(nextV l at_ n).toNat, by omega, by omega⟩
theorem in64_small (n : Int) (h0 : 0 ≤ n) (h1 : n ≤ 1000000) : In64 n := by unfold In64; omega
def tapeC (l : List Int) (at_ : Nat) : List D := [.p (.sl (encI l)), .p (.int .i64 (at_ : Nat))]
theorem next_ok (l : List Int) (at_ : Nat) (n : Int) (hat : at_ < 1000000000000) (hn : In64 n) :
    ACalls Try.prog 38 [.ptr 1000000 0, .p (.int .i64 n)] [(1000000, .box (tapeC l at_))] fun h r => h = [(1000000, .box (tapeC l (at_ + 1)))] ∧ r = .p (.int .i64 (nextV l at_ n)) := by
  refine ACalls_X Try.func38 rfl enters38 (by simp [Try.f38]) ?_
  have h7 : IntKind.i64.wrap ((at_ : Int) * 7) = (at_ : Int) * 7 := by rw [wrap_i64_id] <;> omega
  have h8 : IntKind.i64.wrap ((at_ : Int) + 1) = ((at_ + 1 : Nat) : Int) := by rw [wrap_i64_id] <;> omega
  unfold tapeC
  simp only [go_sem, h7]
  refine X_any [(1000000, .box [.p (.sl (encI l)), .p (.int .i64 (at_ : Nat))])] mixed (p := [(0, 0), (1, 0), (2, 0), (3, 0), (4, 0), (5, 0), (6, 0), (7, 0), (8, 0), (9, 0)]) (by kernel_rfl) (by simp [LeH, get]) ?_
  simp only [go_sem, h7, encI_len]
  refine Cn_split (fun h1 => ?_) (fun h1 => ?_)
  · have hlt : at_ < l.length := by simp at h1; omega
    refine X_any [(1000000, .box [.p (.sl (encI l)), .p (.int .i64 (at_ : Nat))])] mixed (p := [(0, 0), (1, 0), (2, 0), (3, 0), (4, 0), (5, 0), (6, 0), (7, 0), (8, 0), (9, 0), (10, 0)]) (by kernel_rfl) (by simp [LeH, get]) ?_
    simp only [go_sem, h8, encI_len, Int.toNat_natCast, encI_get l at_ hlt]
    refine ⟨by omega, Cc_of (cut_ok _ _ hn) ?_⟩
    rintro h' r ⟨rfl, rfl⟩
    simp only [go_sem, h8]
    simp [nextV, hlt]
  · simp only [go_sem, h8]
    refine Cc_of (cut_ok _ _ hn) ?_
    rintro h' r ⟨rfl, rfl⟩
    simp only [go_sem, h8]
    have : ¬ at_ < l.length := by simp at h1; omega
    simp [nextV, this]
end Go.Am
end
section
namespace Go.Am
open Go Go.Proofs
set_option maxRecDepth 100000
set_option linter.unusedVariables false
set_option linter.unusedSimpArgs false
structure Dc where
  word : Int
  line : Int
  names : List (List UInt8)
  nums : List Int
  deriving DecidableEq
def Dc.d (x : Dc) : D := .agg [.p (.int .i64 x.word), .p (.int .i64 x.line), .p (.sl (encS x.names)), .p (.sl (encI x.nums))]
structure Ln where
  num : Int
  fs : List (List UInt8)
  deriving DecidableEq
def encL (l : List Ln) : List (List Pd) := l.map fun x => [.int .i64 x.num, .sl (encS x.fs)]
theorem encL_len (l : List Ln) : (encL l).length = l.length := by simp [encL]
theorem encL_snoc (l : List Ln) (x : Ln) : encL (l ++ [x]) = encL l ++ [[.int .i64 x.num, .sl (encS x.fs)]] := by simp [encL]
def encC (l : List Dc) : List (List Pd) := l.map fun x => [.int .i64 x.word, .int .i64 x.line, .sl (encS x.names), .sl (encI x.nums)]
theorem encC_len (l : List Dc) : (encC l).length = l.length := by simp [encC]
theorem encC_snoc (l : List Dc) (x : Dc) : encC (l ++ [x]) = encC l ++ [[.int .i64 x.word, .int .i64 x.line, .sl (encS x.names), .sl (encI x.nums)]] := by simp [encC]
end Go.Am
end
section
namespace Go.Am
open Go Go.Proofs
set_option maxRecDepth 100000
set_option linter.unusedVariables false
set_option linter.unusedSimpArgs false
end Go.Am
end
section
namespace Go.Am
open Go Go.Proofs
set_option maxRecDepth 100000
set_option linter.unusedVariables false
set_option linter.unusedSimpArgs false
end Go.Am
end
section
namespace Go.Am
open Go Go.Proofs
set_option maxRecDepth 100000
set_option linter.unusedVariables false
set_option linter.unusedSimpArgs false
end Go.Am
end
section
namespace Go.Am
open Go Go.Proofs
set_option maxRecDepth 100000
set_option linter.unusedVariables false
set_option linter.unusedSimpArgs false
end Go.Am
end
section
namespace Go.Am
open Go Go.Proofs
set_option maxRecDepth 100000
set_option linter.unusedVariables false
set_option linter.unusedSimpArgs false
end Go.Am
end
section
namespace Go.Am
open Go Go.Proofs
set_option maxRecDepth 100000
set_option linter.unusedVariables false
set_option linter.unusedSimpArgs false
structure Blk where
  name : List UInt8
  x : Int
  y : Int
  deriving DecidableEq
structure Spr where
  name : List UInt8
  depot : Bool
  inn : Int
  out : Int
  slots : Int
  base : Int
  deriving DecidableEq
structure Nt where
  blocks : List Blk
  next : List (List Int)
  spurs : List Spr
  robots : List Int
  cq : Int
  ca : Int
  cd : Int
  cp : Int
  deriving DecidableEq
def encK (l : List Blk) : List (List Pd) := l.map fun b => [.str b.name, .int .i64 b.x, .int .i64 b.y]
def encG (l : List (List Int)) : List (List Pd) := l.map fun r => [.sl (encI r)]
def encP (l : List Spr) : List (List Pd) := l.map fun s => [.str s.name, .bool s.depot, .int .i64 s.inn, .int .i64 s.out, .int .i64 s.slots, .int .i64 s.base]
theorem encG_get (l : List (List Int)) (i : Nat) (h : i < l.length) : (encG l).getD i [] = [.sl (encI (l.getD i []))] := by simp [encG, List.getD, h]
def encT (l : List Bool) : List (List Pd) := l.map fun b => [.bool b]
def Nt.cs (n : Nt) : List D := [.p (.sl (encK n.blocks)), .p (.sl (encG n.next)), .p (.sl (encP n.spurs)), .p (.sl (encI n.robots)), .p (.int .i64 n.cq), .p (.int .i64 n.ca), .p (.int .i64 n.cd), .p (.int .i64 n.cp)]
def insV : List Int → Int → List Int
  | [], x => [x]
  | y :: r, x => if x < y then x :: y :: r else y :: insV r x
theorem insV_len (l : List Int) (x : Int) : (insV l x).length = l.length + 1 := by
  induction l with
  | nil => rfl
  | cons y r ih => unfold insV; split <;> simp [ih]
theorem insV_mem (l : List Int) (x z : Int) : z ∈ insV l x ↔ z = x ∨ z ∈ l := by
  induction l with
  | nil => simp [insV]
  | cons y r ih =>
    unfold insV
    split
    · simp
    · simp only [List.mem_cons, ih]; constructor <;> (rintro (h | h | h) <;> simp [h])
theorem insV_asc (l : List Int) (x : Int) (h : l.Pairwise (· < ·)) (hx : x ∉ l) : (insV l x).Pairwise (· < ·) := by
  induction l with
  | nil => simp [insV]
  | cons y r ih =>
    rw [List.pairwise_cons] at h
    unfold insV
    split
    · rename_i h1
      rw [List.pairwise_cons]
      refine ⟨fun z hz => ?_, List.pairwise_cons.2 h⟩
      rcases List.mem_cons.1 hz with rfl | hz
      · exact h1
      · have := h.1 z hz; omega
    · rename_i h1
      have hne : x ≠ y := fun e => hx (by simp [e])
      rw [List.pairwise_cons]
      refine ⟨fun z hz => ?_, ih h.2 (fun hm => hx (List.mem_cons_of_mem _ hm))⟩
      rcases (insV_mem r x z).1 hz with rfl | hz
      · omega
      · exact h.1 z hz
end Go.Am
end
section
namespace Go.Am
open Go Go.Proofs
set_option maxRecDepth 100000
set_option linter.unusedVariables false
set_option linter.unusedSimpArgs false
def nextO {σ ε : Type} (f : σ → Option ε) : σ ⊕ ε → Option ε
  | .inl s => f s
  | .inr e => some e
theorem nextO_inl {σ ε : Type} (f : σ → Option ε) (s : σ) : nextO f (.inl s) = f s := rfl
theorem nextO_inr {σ ε : Type} (f : σ → Option ε) (e : ε) : nextO f (.inr e) = some e := rfl
def iterO {σ ε : Type} (step : σ → Option (σ ⊕ ε)) : Nat → σ → Option ε
  | 0, _ => none
  | n + 1, s => (step s).bind (nextO (iterO step n))
noncomputable def loopO {σ ε : Type} (step : σ → Option (σ ⊕ ε)) (s : σ) : Option ε :=
  open Classical in if h : ∃ n e, iterO step n s = some e then some (Classical.choose (Classical.choose_spec h)) else none
theorem iterO_mono {σ ε : Type} {step : σ → Option (σ ⊕ ε)} : ∀ {n m : Nat} {s : σ} {e : ε}, iterO step n s = some e → n ≤ m → iterO step m s = some e
  | 0, _, _, _, h, _ => by simp [iterO] at h
  | n + 1, 0, _, _, _, h => by omega
  | n + 1, m + 1, s, e, h, hm => by
    simp only [iterO] at h ⊢
    cases hs : step s with
    | none => rw [hs] at h; simp at h
    | some y =>
      rw [hs] at h
      cases y with
      | inl s' => exact iterO_mono (n := n) (m := m) (by simpa [nextO] using h) (by omega)
      | inr e' => simpa [nextO] using h
theorem loopO_iff {σ ε : Type} {step : σ → Option (σ ⊕ ε)} {s : σ} {e : ε} : loopO step s = some e ↔ ∃ n, iterO step n s = some e := by
  constructor
  · intro h
    unfold loopO at h
    split at h
    · rename_i hh
      have h1 := Classical.choose_spec (Classical.choose_spec hh)
      rw [Option.some.inj h] at h1
      exact ⟨_, h1⟩
    · cases h
  · rintro ⟨n, hn⟩
    unfold loopO
    have hh : ∃ n e, iterO step n s = some e := ⟨n, e, hn⟩
    rw [dif_pos hh]
    have h1 := Classical.choose_spec (Classical.choose_spec hh)
    have a := iterO_mono h1 (Nat.le_max_left _ n)
    have b := iterO_mono hn (Nat.le_max_right (Classical.choose hh) n)
    rw [a] at b
    exact b
theorem loopO_step {σ ε : Type} (step : σ → Option (σ ⊕ ε)) (s : σ) : loopO step s = (step s).bind (nextO (loopO step)) := by
  apply Option.ext
  intro e
  rw [loopO_iff]
  constructor
  · rintro ⟨n, hn⟩
    cases n with
    | zero => simp [iterO] at hn
    | succ n =>
      simp only [iterO] at hn
      cases hs : step s with
      | none => rw [hs] at hn; simp at hn
      | some y =>
        rw [hs] at hn
        cases y with
        | inl s' => exact loopO_iff.2 ⟨n, by simpa [nextO] using hn⟩
        | inr e' => simpa [nextO] using hn
  · intro h
    cases hs : step s with
    | none => rw [hs] at h; simp at h
    | some y =>
      rw [hs] at h
      cases y with
      | inl s' =>
        obtain ⟨n, hn⟩ := loopO_iff.1 (show loopO step s' = some e by simpa [nextO] using h)
        exact ⟨n + 1, by simpa [iterO, hs, nextO] using hn⟩
      | inr e' => exact ⟨1, by simpa [iterO, hs, nextO] using h⟩
theorem loopO_inv {σ ε : Type} {step : σ → Option (σ ⊕ ε)} (I : σ → Prop) (μ : σ → Nat) (Q : ε → Prop)
    (h : ∀ s, I s → ∃ y, step s = some y ∧ match y with | .inl s' => I s' ∧ μ s' < μ s | .inr e => Q e) (s : σ) (h0 : I s) : ∃ e, loopO step s = some e ∧ Q e := by
  have key : ∀ n s, I s → μ s < n → ∃ e, loopO step s = some e ∧ Q e := by
    intro n
    induction n with
    | zero => intro s _ h; omega
    | succ n ih =>
      intro s hs hm
      obtain ⟨y, h1, h2⟩ := h s hs
      rw [loopO_step, h1]
      cases y with
      | inl s' => exact ih s' h2.1 (by have := h2.2; omega)
      | inr e => exact ⟨e, rfl, h2⟩
  exact key _ s h0 (Nat.lt_succ_self _)
theorem loopO_for {σ ε : Type} {step : σ → Option (σ ⊕ ε)} (n : Nat) (S : Nat → σ) (out : ε) (early : Nat → Option ε)
    (h1 : ∀ i, i < n → (∀ j, j < i → early j = none) → step (S i) = some (match early i with | some e => .inr e | none => .inl (S (i + 1)))) (h2 : (∀ j, j < n → early j = none) → step (S n) = some (.inr out)) :
    loopO step (S 0) = some (((List.range n).findSome? early).getD out) := by
  have key : ∀ m i, i + m = n → (∀ j, j < i → early j = none) → loopO step (S i) = some ((((List.range n).drop i).findSome? early).getD out) := by
    intro m
    induction m with
    | zero =>
      intro i hi hj
      obtain rfl : i = n := by omega
      rw [loopO_step, h2 hj, List.drop_of_length_le (by simp)]
      rfl
    | succ m ih =>
      intro i hi hj
      rw [loopO_step, h1 i (by omega) hj]
      have hd : (List.range n).drop i = i :: (List.range n).drop (i + 1) := by
        rw [List.drop_eq_getElem_cons (by simp; omega)]; simp
      rw [hd, List.findSome?_cons]
      cases he : early i with
      | some e => simp [nextO]
      | none =>
        simp only [Option.bind_some, nextO]
        exact ih (i + 1) (by omega) (fun j hj2 => by
          by_cases e : j = i
          · rw [e]; exact he
          · exact hj j (by omega))
  have := key n 0 (by omega) (fun j hj => by omega)
  simpa using this
section
variable {P : Program} {st : St} {x : Code} {k : Kt}
theorem X_loopO {σ ε : Type} {step : σ → Option (σ ⊕ ε)} {s0 : σ} {e : ε} (hr : loopO step s0 = some e) (S : σ → St) (hw : Wk st (S s0))
    (hs : ∀ s n, (step s).bind (nextO (iterO step n)) = some e → (∀ s' st', iterO step n s' = some e → Wk st' (S s') → L P x k n st') → X P x (.lp x n k) (S s)) : X P (.loop x) k st := by
  obtain ⟨n, hn⟩ := loopO_iff.1 hr
  have key : ∀ n s, iterO step n s = some e → L P x k n (S s) := by
    intro n
    induction n with
    | zero => intro s h; simp [iterO] at h
    | succ n ih => intro s h; exact ⟨S s, Wk.refl _, hs s n h fun s' st' h' hw' => L_wk hw' (ih s' h')⟩
  exact X_loop _ (L_wk hw (key n s0 hn))
end
def idxO {α : Type} (l : List α) (i : Int) : Option α := if 0 ≤ i then l[i.toNat]? else none
theorem idxO_some {α : Type} {l : List α} {i : Int} {x : α} (h : idxO l i = some x) : (0 ≤ i ∧ i < (l.length : Int)) ∧ l[i.toNat]? = some x := by
  unfold idxO at h
  split at h
  · have := (List.getElem?_eq_some_iff.1 h).1
    exact ⟨by omega, h⟩
  · cases h
theorem idxO_rng {α : Type} {l : List α} {i : Int} {x : α} (h : idxO l i = some x) : 0 ≤ i ∧ i < (l.length : Int) := (idxO_some h).1
theorem idxO_map {α : Type} {l : List α} {i : Int} {x : α} (f : α → List Pd) (h : idxO l i = some x) : (l.map f).getD i.toNat [] = f x := by
  simp [List.getD, (idxO_some h).2]
theorem idxO_nat {α : Type} (l : List α) (i : Nat) : idxO l (i : Int) = l[i]? := by
  unfold idxO; rw [if_pos (by omega)]; rfl
theorem encI_nil : encI [] = [] := rfl
theorem encS_nil : encS [] = [] := rfl
theorem encT_nil : encT [] = [] := rfl
theorem encG_nil : encG [] = [] := rfl
theorem encC_nil : encC [] = [] := rfl
theorem encL_nil : encL [] = [] := rfl
theorem encK_nil : encK [] = [] := rfl
theorem encP_nil : encP [] = [] := rfl
theorem encT_len2 (l : List Bool) : (encT l).length = l.length := by simp [encT]
theorem encG_len2 (l : List (List Int)) : (encG l).length = l.length := by simp [encG]
theorem encK_len2 (l : List Blk) : (encK l).length = l.length := by simp [encK]
theorem encP_len2 (l : List Spr) : (encP l).length = l.length := by simp [encP]
theorem encI_snocF (l : List Int) (x : Int) : encI l ++ [[.int .i64 x]] = encI (l ++ [x]) := by simp [encI]
theorem encT_snocE (l : List Bool) (x : Bool) : encT (l ++ [x]) = encT l ++ [[.bool x]] := by simp [encT]
theorem encG_snocE (l : List (List Int)) (x : List Int) : encG (l ++ [x]) = encG l ++ [[.sl (encI x)]] := by simp [encG]
theorem encK_snocE (l : List Blk) (x : Blk) : encK (l ++ [x]) = encK l ++ [[.str x.name, .int .i64 x.x, .int .i64 x.y]] := by simp [encK]
theorem encP_snocE (l : List Spr) (x : Spr) : encP (l ++ [x]) = encP l ++ [[.str x.name, .bool x.depot, .int .i64 x.inn, .int .i64 x.out, .int .i64 x.slots, .int .i64 x.base]] := by simp [encP]
theorem encI_setF (l : List Int) (i : Nat) (x : Int) : (encI l).set i [.int .i64 x] = encI (l.set i x) := by simp [encI, List.map_set]
theorem encT_setF (l : List Bool) (i : Nat) (x : Bool) : (encT l).set i [.bool x] = encT (l.set i x) := by simp [encT, List.map_set]
theorem encG_setF (l : List (List Int)) (i : Nat) (x : List Int) : (encG l).set i [.sl (encI x)] = encG (l.set i x) := by simp [encG, List.map_set]
theorem encI_takeF (l : List Int) : (encI l).take l.length = encI l := by simp [encI, ← List.map_take]
theorem encS_takeF (l : List (List UInt8)) : (encS l).take l.length = encS l := by simp [encS, ← List.map_take]
theorem encT_takeF (l : List Bool) : (encT l).take l.length = encT l := by simp [encT, ← List.map_take]
theorem encG_takeF (l : List (List Int)) : (encG l).take l.length = encG l := by simp [encG, ← List.map_take]
theorem encC_takeF (l : List Dc) : (encC l).take l.length = encC l := by simp [encC, ← List.map_take]
theorem encL_takeF (l : List Ln) : (encL l).take l.length = encL l := by simp [encL, ← List.map_take]
theorem encK_takeF (l : List Blk) : (encK l).take l.length = encK l := by simp [encK, ← List.map_take]
theorem encP_takeF (l : List Spr) : (encP l).take l.length = encP l := by simp [encP, ← List.map_take]
theorem encI_rep (n : Nat) : List.replicate n [Pd.int .i64 0] = encI (List.replicate n 0) := by simp [encI]
theorem encT_repF (n : Nat) : List.replicate n [Pd.bool false] = encT (List.replicate n false) := by simp [encT]
theorem encG_rep (n : Nat) : List.replicate n [Pd.sl []] = encG (List.replicate n []) := by simp [encG, encI]
theorem encI_wid (l : List Int) : Wid 1 (encI l) := by simp [Wid, encI]
theorem encT_setE (l : List Bool) (i : Nat) (x : Bool) : encT (l.set i x) = (encT l).set i [.bool x] := by simp [encT, List.map_set]
theorem encG_setE (l : List (List Int)) (i : Nat) (x : List Int) : encG (l.set i x) = (encG l).set i [.sl (encI x)] := by simp [encG, List.map_set]
theorem encC_setE (l : List Dc) (i : Nat) (x : Dc) : encC (l.set i x) = (encC l).set i [.int .i64 x.word, .int .i64 x.line, .sl (encS x.names), .sl (encI x.nums)] := by simp [encC, List.map_set]
theorem encK_setE (l : List Blk) (i : Nat) (x : Blk) : encK (l.set i x) = (encK l).set i [.str x.name, .int .i64 x.x, .int .i64 x.y] := by simp [encK, List.map_set]
theorem encP_setE (l : List Spr) (i : Nat) (x : Spr) : encP (l.set i x) = (encP l).set i [.str x.name, .bool x.depot, .int .i64 x.inn, .int .i64 x.out, .int .i64 x.slots, .int .i64 x.base] := by simp [encP, List.map_set]
theorem encI_one (x : Int) : encI [x] = [[.int .i64 x]] := rfl
theorem encS_one (x : List UInt8) : encS [x] = [[.str x]] := rfl
theorem encT_one (x : Bool) : encT [x] = [[.bool x]] := rfl
theorem encI_consE (x : Int) (l : List Int) : encI (x :: l) = [.int .i64 x] :: encI l := rfl
theorem encS_consE (x : List UInt8) (l : List (List UInt8)) : encS (x :: l) = [.str x] :: encS l := rfl
theorem encT_consE (x : Bool) (l : List Bool) : encT (x :: l) = [.bool x] :: encT l := rfl
theorem encG_consE (x : List Int) (l : List (List Int)) : encG (x :: l) = [.sl (encI x)] :: encG l := rfl
attribute [go_sem] encI_len encS_len encT_len2 encG_len2 encC_len encL_len encK_len2 encP_len2
attribute [go_sem] List.length_set encI_snocF
attribute [go_sem] encI_setF encT_setF encG_setF
attribute [go_sem] encI_takeF encS_takeF encT_takeF encG_takeF encC_takeF encL_takeF encK_takeF encP_takeF encI_rep encT_repF Int.toNat_natCast
attribute [go_sem] KK.fit mpS_nil Pd.flat mpB_nil
end Go.Am
end
section
namespace Go.Am
open Go Go.Proofs
set_option maxRecDepth 100000
set_option linter.unusedVariables false
set_option linter.unusedSimpArgs false
theorem getD_eq {α : Type} {l : List α} {k : Nat} {x : α} (h : k < l.length) : l.getD k x = l[k] := by simp [List.getD, h]
theorem encT_get (l : List Bool) (i : Nat) (h : i < l.length) : (encT l).getD i [] = [.bool (l.getD i false)] := by simp [encT, List.getD, h]
theorem take_snoc {α : Type} (l : List α) (i : Nat) (x : α) (h : i < l.length) : l.take (i + 1) = l.take i ++ [l.getD i x] := by
  rw [List.take_add_one, List.getD, List.getElem?_eq_getElem h]; rfl
theorem encI_take2 (l : List Int) (i : Nat) : (encI l).take i = encI (l.take i) := by simp [encI, List.map_take]
theorem wrap_sm {n : Nat} (h : n < 10000000) : IntKind.i64.wrap ((n : Int) + 1) = ((n + 1 : Nat) : Int) := wrap_succ n (by omega)
theorem gde {α : Type} {l : List α} {k : Nat} {x : α} (h : k < l.length) : l.getD k x = l[k] := by simp [List.getD, h]
theorem getD_setx {α : Type} (l : List α) (v : Nat) (x d : α) (w : Nat) (hv : v < l.length) : (l.set v x).getD w d = if w = v then x else l.getD w d := by
  simp only [List.getD, List.getElem?_set]
  by_cases h : w = v
  · subst h; simp [hv]
  · rw [if_neg (Ne.symm h), if_neg h]
end Go.Am
end
section
namespace Go.Am
open Go Go.Proofs
set_option maxRecDepth 100000
set_option linter.unusedVariables false
set_option linter.unusedSimpArgs false
theorem loopO_thru {σ ε : Type} {step : σ → Option (σ ⊕ ε)} (n : Nat) (S : Nat → σ) (out : ε) (h1 : ∀ i, i < n → step (S i) = some (.inl (S (i + 1)))) (h2 : step (S n) = some (.inr out)) : loopO step (S 0) = some out := by
  have := loopO_for n S out (fun _ => none) (fun i hi _ => h1 i hi) (fun _ => h2)
  rw [this]
  have : (List.range n).findSome? (fun _ => (none : Option ε)) = none := by rw [List.findSome?_eq_none_iff]; simp
  rw [this]; rfl
theorem loopO_all {σ ε : Type} {step : σ → Option (σ ⊕ ε)} (n : Nat) (S : Nat → σ) (out bad : ε) (good : Nat → Bool)
    (h1 : ∀ i, i < n → (∀ j, j < i → good j = true) → step (S i) = some (if good i = true then .inl (S (i + 1)) else .inr bad)) (h2 : (∀ j, j < n → good j = true) → step (S n) = some (.inr out)) :
    loopO step (S 0) = some (if (∀ j, j < n → good j = true) then out else bad) := by
  have h := loopO_for n S out (fun i => if good i = true then none else some bad)
    (fun i hi hj => by
      rw [h1 i hi (fun j hj2 => by have := hj j hj2; by_cases g : good j = true; exact g; simp [g] at this)]
      by_cases g : good i = true <;> simp [g])
    (fun hj => h2 (fun j hj2 => by have := hj j hj2; by_cases g : good j = true; exact g; simp [g] at this))
  rw [h]
  by_cases g : ∀ j, j < n → good j = true
  · rw [if_pos g]
    have : (List.range n).findSome? (fun i => if good i = true then none else some bad) = none := by
      rw [List.findSome?_eq_none_iff]
      intro x hx
      simp [g x (by simpa using hx)]
    rw [this]; rfl
  · rw [if_neg g]
    cases hf : (List.range n).findSome? (fun i => if good i = true then none else some bad) with
    | none =>
      exfalso
      rw [List.findSome?_eq_none_iff] at hf
      refine g fun j hj => ?_
      have := hf j (by simpa using hj)
      by_cases g2 : good j = true
      · exact g2
      · simp [g2] at this
    | some e =>
      obtain ⟨i, hi, he⟩ := List.exists_of_findSome?_eq_some hf
      by_cases g2 : good i = true
      · simp [g2] at he
      · simp [g2] at he; simp [he]
theorem idxO_at {α : Type} (l : List α) (i : Nat) (x : α) (h : i < l.length) : idxO l (i : Int) = some (l.getD i x) := by rw [idxO_nat]; simp [List.getD, h]
theorem lt_c {i n : Nat} (h : i < n) : decide ((i : Int) < ((n : Nat) : Int)) = true := decide_eq_true (by omega)
theorem lt_n {n : Nat} : decide ((n : Int) < ((n : Nat) : Int)) = false := decide_eq_false (by omega)
end Go.Am
end
section
namespace Go.Am
open Go Go.Proofs
set_option maxRecDepth 100000
set_option maxHeartbeats 2000000
set_option linter.unusedSimpArgs false
set_option linter.unusedVariables false
noncomputable def cCheck_L1 (a0 : List (List Int)) (v3 : Int) (x11 : List Int) : Int → Option ((Int) ⊕ (Int ⊕ Int))
  | v16 => cond (decide (v16 < ((x11.length : Nat) : Int))) (Option.bind (idxO x11 v16) fun x23 => cond (decide (x23 < 0)) (some (Sum.inr (.inr (20)))) (cond (decide (((a0.length : Nat) : Int) ≤ x23)) (some (Sum.inr (.inr (20)))) (cond (decide (x23 = v3)) (some (Sum.inr (.inr (20)))) (cond (decide (0 < v16)) (Option.bind (idxO x11 (IntKind.i64.wrap (v16 - 1))) fun x31 => cond (decide (x23 ≤ x31)) (some (Sum.inr (.inr (20)))) (some (Sum.inl (IntKind.i64.wrap (v16 + 1))))) (some (Sum.inl (IntKind.i64.wrap (v16 + 1)))))))) (some (Sum.inr (.inl v16)))
theorem cCheck_L1_eq (a0 : List (List Int)) (v3 : Int) (x11 : List Int) (v16 : Int) : cCheck_L1 a0 v3 x11 v16 = cond (decide (v16 < ((x11.length : Nat) : Int))) (Option.bind (idxO x11 v16) fun x23 => cond (decide (x23 < 0)) (some (Sum.inr (.inr (20)))) (cond (decide (((a0.length : Nat) : Int) ≤ x23)) (some (Sum.inr (.inr (20)))) (cond (decide (x23 = v3)) (some (Sum.inr (.inr (20)))) (cond (decide (0 < v16)) (Option.bind (idxO x11 (IntKind.i64.wrap (v16 - 1))) fun x31 => cond (decide (x23 ≤ x31)) (some (Sum.inr (.inr (20)))) (some (Sum.inl (IntKind.i64.wrap (v16 + 1))))) (some (Sum.inl (IntKind.i64.wrap (v16 + 1)))))))) (some (Sum.inr (.inl v16))) := rfl
noncomputable def cCheck_L2 (a0 : List (List Int)) : Int → Option ((Int) ⊕ (Int ⊕ Int))
  | v3 => cond (decide (v3 < ((a0.length : Nat) : Int))) (Option.bind (idxO a0 v3) fun x11 => Option.bind (loopO (cCheck_L1 a0 v3 x11) 0) (fun | .inl v36 => some (Sum.inl (IntKind.i64.wrap (v3 + 1))) | .inr (r37) => some (Sum.inr (.inr (r37))))) (some (Sum.inr (.inl v3)))
theorem cCheck_L2_eq (a0 : List (List Int)) (v3 : Int) : cCheck_L2 a0 v3 = cond (decide (v3 < ((a0.length : Nat) : Int))) (Option.bind (idxO a0 v3) fun x11 => Option.bind (loopO (cCheck_L1 a0 v3 x11) 0) (fun | .inl v36 => some (Sum.inl (IntKind.i64.wrap (v3 + 1))) | .inr (r37) => some (Sum.inr (.inr (r37))))) (some (Sum.inr (.inl v3))) := rfl
noncomputable def cCheck_v (a0 : List (List Int)) (a1 : List Bool) : Option (Int) :=
  cond (decide (24 < ((a0.length : Nat) : Int))) (some 20) (Option.bind (loopO (cCheck_L2 a0) 0) (fun | .inl v38 => cond (decide (((a1.length : Nat) : Int) = ((a0.length : Nat) : Int))) (some 0) (some 19) | .inr (r40) => some r40))
theorem cCheck_vok (a0 : List (List Int)) (a1 : List Bool) (r : Int) (hr : cCheck_v a0 a1 = some r) :
    ACalls Try.prog 41 [.p (.sl (encG a0)), .p (.sl (encT a1))] [] fun h d => h = [] ∧ d = .p (.int .i64 r) := by
  refine ACalls_X Try.func41 rfl enters41 (by simp [Try.f41]) ?_
  unfold cCheck_v at hr
  cases c1 : decide (24 < ((a0.length : Nat) : Int))
  · simp only [c1, cond_false] at hr
    rcases g8 : loopO (cCheck_L2 a0) 0 with _ | e7
    · simp only [g8, Option.bind_none, reduceCtorEq] at hr
    simp only [g8, Option.bind_some] at hr
    try simp only [go_sem, c1]
    refine X_loopO g8 (fun q : Int => ⟨[(0, .p (.sl (encG a0))), (1, .p (.sl (encT a1))), (12, .p (.sl (encG a0))), (13, .p (.int .i64 ((a0.length : Nat) : Int))), (14, .p (.int .i64 q))], [], 59⟩) ((Wk.forget (by simp [Le, LeE, LeH, get, envIds, hpIds, KeepH, D.ids, idsL, AO.ids, setL, base, encI_nil, encS_nil, encT_nil, encG_nil, encC_nil, encL_nil, encK_nil, encP_nil, mpS_nil, mpB_nil, encI_consE, encS_consE, encT_consE, encG_consE, encI_one, encS_one, encT_one, encI_snoc, encS_snoc, encT_snocE, encG_snocE, encC_snoc, encL_snoc, encK_snocE, encP_snocE, encI_set, encS_set, encT_setE, encG_setE, encC_setE, encK_setE, encP_setE, encI_len, encS_len, encT_len2, encG_len2, encC_len, encL_len, encK_len2, encP_len2]))) ?_
    rintro v3 m6 hh4 ih5
    rw [cCheck_L2_eq] at hh4
    cases c9 : decide (v3 < ((a0.length : Nat) : Int))
    · simp only [c9, cond_false] at hh4
      simp only [Option.bind_some, nextO_inr] at hh4
      obtain rfl := Option.some.inj hh4
      try dsimp only at hr
      cases c10 : decide (((a1.length : Nat) : Int) = ((a0.length : Nat) : Int))
      · simp only [c10, cond_false] at hr
        obtain rfl := Option.some.inj hr
        try simp only [go_sem, c1, c9, c10]
        all_goals (try refine end_pure ?_)
        all_goals (try simp only [go_sem, c1, c9, c10])
        all_goals (try (first | rfl | exact ⟨rfl, rfl⟩ | (simp; done)))
      simp only [c10, cond_true] at hr
      obtain rfl := Option.some.inj hr
      try simp only [go_sem, c1, c9, c10]
      all_goals (try refine end_pure ?_)
      all_goals (try simp only [go_sem, c1, c9, c10])
      all_goals (try (first | rfl | exact ⟨rfl, rfl⟩ | (simp; done)))
    simp only [c9, cond_true] at hh4
    rcases g12 : idxO a0 v3 with _ | x11
    · simp only [g12, Option.bind_none, reduceCtorEq] at hh4
    simp only [g12, Option.bind_some] at hh4
    have f13 := idxO_rng g12
    have f14 : (encG a0).getD (Int.toNat v3) [] = [(.sl (encI x11))] := idxO_map _ g12
    rcases g21 : loopO (cCheck_L1 a0 v3 x11) 0 with _ | e20
    · simp only [g21, Option.bind_none, reduceCtorEq] at hh4
    simp only [g21, Option.bind_some] at hh4
    try simp only [go_sem, c1, c9, f13, f14]
    refine X_loopO g21 (fun q : Int => ⟨[(0, .p (.sl (encG a0))), (1, .p (.sl (encT a1))), (5, .p (.int .i64 v3)), (6, .p (.sl (encI x11))), (12, .p (.sl (encG a0))), (13, .p (.int .i64 ((a0.length : Nat) : Int))), (14, .p (.int .i64 v3)), (19, .p (.sl (encI x11))), (20, .p (.int .i64 ((x11.length : Nat) : Int))), (21, .p (.int .i64 q))], [], 59⟩) ((Wk.forget (by simp [Le, LeE, LeH, get, envIds, hpIds, KeepH, D.ids, idsL, AO.ids, setL, base, encI_nil, encS_nil, encT_nil, encG_nil, encC_nil, encL_nil, encK_nil, encP_nil, mpS_nil, mpB_nil, encI_consE, encS_consE, encT_consE, encG_consE, encI_one, encS_one, encT_one, encI_snoc, encS_snoc, encT_snocE, encG_snocE, encC_snoc, encL_snoc, encK_snocE, encP_snocE, encI_set, encS_set, encT_setE, encG_setE, encC_setE, encK_setE, encP_setE, encI_len, encS_len, encT_len2, encG_len2, encC_len, encL_len, encK_len2, encP_len2]))) ?_
    rintro v16 m19 hh17 ih18
    rw [cCheck_L1_eq] at hh17
    cases c22 : decide (v16 < ((x11.length : Nat) : Int))
    · simp only [c22, cond_false] at hh17
      simp only [Option.bind_some, nextO_inr] at hh17
      obtain rfl := Option.some.inj hh17
      try dsimp only at hh4
      simp only [Option.bind_some, nextO_inl] at hh4
      try simp only [go_sem, c1, c9, f13, f14, c22]
      exact ih5 (IntKind.i64.wrap (v3 + 1)) _ hh4 ((Wk.forget (by simp [Le, LeE, LeH, get, envIds, hpIds, KeepH, D.ids, idsL, AO.ids, setL, base, encI_nil, encS_nil, encT_nil, encG_nil, encC_nil, encL_nil, encK_nil, encP_nil, mpS_nil, mpB_nil, encI_consE, encS_consE, encT_consE, encG_consE, encI_one, encS_one, encT_one, encI_snoc, encS_snoc, encT_snocE, encG_snocE, encC_snoc, encL_snoc, encK_snocE, encP_snocE, encI_set, encS_set, encT_setE, encG_setE, encC_setE, encK_setE, encP_setE, encI_len, encS_len, encT_len2, encG_len2, encC_len, encL_len, encK_len2, encP_len2])))
    simp only [c22, cond_true] at hh17
    rcases g24 : idxO x11 v16 with _ | x23
    · simp only [g24, Option.bind_none, reduceCtorEq] at hh17
    simp only [g24, Option.bind_some] at hh17
    have f25 := idxO_rng g24
    have f26 : (encI x11).getD (Int.toNat v16) [] = [(.int .i64 x23)] := idxO_map _ g24
    cases c27 : decide (x23 < 0)
    · simp only [c27, cond_false] at hh17
      cases c28 : decide (((a0.length : Nat) : Int) ≤ x23)
      · simp only [c28, cond_false] at hh17
        cases c29 : decide (x23 = v3)
        · simp only [c29, cond_false] at hh17
          cases c30 : decide (0 < v16)
          · simp only [c30, cond_false] at hh17
            simp only [Option.bind_some, nextO_inl] at hh17
            try simp only [go_sem, c1, c9, f13, f14, c22, f25, f26, c27, c28, c29, c30]
            exact ih18 (IntKind.i64.wrap (v16 + 1)) _ hh17 ((Wk.forget (by simp [Le, LeE, LeH, get, envIds, hpIds, KeepH, D.ids, idsL, AO.ids, setL, base, encI_nil, encS_nil, encT_nil, encG_nil, encC_nil, encL_nil, encK_nil, encP_nil, mpS_nil, mpB_nil, encI_consE, encS_consE, encT_consE, encG_consE, encI_one, encS_one, encT_one, encI_snoc, encS_snoc, encT_snocE, encG_snocE, encC_snoc, encL_snoc, encK_snocE, encP_snocE, encI_set, encS_set, encT_setE, encG_setE, encC_setE, encK_setE, encP_setE, encI_len, encS_len, encT_len2, encG_len2, encC_len, encL_len, encK_len2, encP_len2])))
          simp only [c30, cond_true] at hh17
          rcases g32 : idxO x11 (IntKind.i64.wrap (v16 - 1)) with _ | x31
          · simp only [g32, Option.bind_none, reduceCtorEq] at hh17
          simp only [g32, Option.bind_some] at hh17
          have f33 := idxO_rng g32
          have f34 : (encI x11).getD (Int.toNat (IntKind.i64.wrap (v16 - 1))) [] = [(.int .i64 x31)] := idxO_map _ g32
          cases c35 : decide (x23 ≤ x31)
          · simp only [c35, cond_false] at hh17
            simp only [Option.bind_some, nextO_inl] at hh17
            try simp only [go_sem, c1, c9, f13, f14, c22, f25, f26, c27, c28, c29, c30, f33, f34, c35]
            exact ih18 (IntKind.i64.wrap (v16 + 1)) _ hh17 ((Wk.forget (by simp [Le, LeE, LeH, get, envIds, hpIds, KeepH, D.ids, idsL, AO.ids, setL, base, encI_nil, encS_nil, encT_nil, encG_nil, encC_nil, encL_nil, encK_nil, encP_nil, mpS_nil, mpB_nil, encI_consE, encS_consE, encT_consE, encG_consE, encI_one, encS_one, encT_one, encI_snoc, encS_snoc, encT_snocE, encG_snocE, encC_snoc, encL_snoc, encK_snocE, encP_snocE, encI_set, encS_set, encT_setE, encG_setE, encC_setE, encK_setE, encP_setE, encI_len, encS_len, encT_len2, encG_len2, encC_len, encL_len, encK_len2, encP_len2])))
          simp only [c35, cond_true] at hh17
          simp only [Option.bind_some, nextO_inr] at hh17
          obtain rfl := Option.some.inj hh17
          try dsimp only at hh4
          simp only [Option.bind_some, nextO_inr] at hh4
          obtain rfl := Option.some.inj hh4
          try dsimp only at hr
          obtain rfl := Option.some.inj hr
          try simp only [go_sem, c1, c9, f13, f14, c22, f25, f26, c27, c28, c29, c30, f33, f34, c35]
          all_goals (try refine end_pure ?_)
          all_goals (try simp only [go_sem, c1, c9, f13, f14, c22, f25, f26, c27, c28, c29, c30, f33, f34, c35])
          all_goals (try (first | rfl | exact ⟨rfl, rfl⟩ | (simp; done)))
        simp only [c29, cond_true] at hh17
        simp only [Option.bind_some, nextO_inr] at hh17
        obtain rfl := Option.some.inj hh17
        try dsimp only at hh4
        simp only [Option.bind_some, nextO_inr] at hh4
        obtain rfl := Option.some.inj hh4
        try dsimp only at hr
        obtain rfl := Option.some.inj hr
        try simp only [go_sem, c1, c9, f13, f14, c22, f25, f26, c27, c28, c29]
        all_goals (try refine end_pure ?_)
        all_goals (try simp only [go_sem, c1, c9, f13, f14, c22, f25, f26, c27, c28, c29])
        all_goals (try (first | rfl | exact ⟨rfl, rfl⟩ | (simp; done)))
      simp only [c28, cond_true] at hh17
      simp only [Option.bind_some, nextO_inr] at hh17
      obtain rfl := Option.some.inj hh17
      try dsimp only at hh4
      simp only [Option.bind_some, nextO_inr] at hh4
      obtain rfl := Option.some.inj hh4
      try dsimp only at hr
      obtain rfl := Option.some.inj hr
      try simp only [go_sem, c1, c9, f13, f14, c22, f25, f26, c27, c28]
      all_goals (try refine end_pure ?_)
      all_goals (try simp only [go_sem, c1, c9, f13, f14, c22, f25, f26, c27, c28])
      all_goals (try (first | rfl | exact ⟨rfl, rfl⟩ | (simp; done)))
    simp only [c27, cond_true] at hh17
    simp only [Option.bind_some, nextO_inr] at hh17
    obtain rfl := Option.some.inj hh17
    try dsimp only at hh4
    simp only [Option.bind_some, nextO_inr] at hh4
    obtain rfl := Option.some.inj hh4
    try dsimp only at hr
    obtain rfl := Option.some.inj hr
    try simp only [go_sem, c1, c9, f13, f14, c22, f25, f26, c27]
    all_goals (try refine end_pure ?_)
    all_goals (try simp only [go_sem, c1, c9, f13, f14, c22, f25, f26, c27])
    all_goals (try (first | rfl | exact ⟨rfl, rfl⟩ | (simp; done)))
  simp only [c1, cond_true] at hr
  obtain rfl := Option.some.inj hr
  try simp only [go_sem, c1]
  all_goals (try refine end_pure ?_)
  all_goals (try simp only [go_sem, c1])
  all_goals (try (first | rfl | exact ⟨rfl, rfl⟩ | (simp; done)))
noncomputable def sIndex_L1 (a0 : List Int) (a1 : Int) : Int → Option ((Int) ⊕ (Int ⊕ Int))
  | v2 => cond (decide (v2 < ((a0.length : Nat) : Int))) (Option.bind (idxO a0 v2) fun x9 => cond (decide (a1 = x9)) (some (Sum.inr (.inr (v2)))) (some (Sum.inl (IntKind.i64.wrap (v2 + 1))))) (some (Sum.inr (.inl v2)))
theorem sIndex_L1_eq (a0 : List Int) (a1 : Int) (v2 : Int) : sIndex_L1 a0 a1 v2 = cond (decide (v2 < ((a0.length : Nat) : Int))) (Option.bind (idxO a0 v2) fun x9 => cond (decide (a1 = x9)) (some (Sum.inr (.inr (v2)))) (some (Sum.inl (IntKind.i64.wrap (v2 + 1))))) (some (Sum.inr (.inl v2))) := rfl
noncomputable def sIndex_v (a0 : List Int) (a1 : Int) : Option (Int) :=
  Option.bind (loopO (sIndex_L1 a0 a1) 0) (fun | .inl v14 => some (-1) | .inr (r15) => some r15)
theorem sIndex_vok (a0 : List Int) (a1 : Int) (r : Int) (hr : sIndex_v a0 a1 = some r) :
    ACalls Try.prog 75 [.p (.sl (encI a0)), .p (.int .i64 a1)] [] fun h d => h = [] ∧ d = .p (.int .i64 r) := by
  refine ACalls_X Try.func75 rfl enters75 (by simp [Try.f75]) ?_
  unfold sIndex_v at hr
  rcases g7 : loopO (sIndex_L1 a0 a1) 0 with _ | e6
  · simp only [g7, Option.bind_none, reduceCtorEq] at hr
  simp only [g7, Option.bind_some] at hr
  try simp only [go_sem]
  refine X_loopO g7 (fun q : Int => ⟨[(0, .p (.sl (encI a0))), (1, .p (.int .i64 a1)), (7, .p (.int .i64 ((a0.length : Nat) : Int))), (8, .p (.int .i64 q))], [], 19⟩) ((Wk.forget (by simp [Le, LeE, LeH, get, envIds, hpIds, KeepH, D.ids, idsL, AO.ids, setL, base, encI_nil, encS_nil, encT_nil, encG_nil, encC_nil, encL_nil, encK_nil, encP_nil, mpS_nil, mpB_nil, encI_consE, encS_consE, encT_consE, encG_consE, encI_one, encS_one, encT_one, encI_snoc, encS_snoc, encT_snocE, encG_snocE, encC_snoc, encL_snoc, encK_snocE, encP_snocE, encI_set, encS_set, encT_setE, encG_setE, encC_setE, encK_setE, encP_setE, encI_len, encS_len, encT_len2, encG_len2, encC_len, encL_len, encK_len2, encP_len2]))) ?_
  rintro v2 m5 hh3 ih4
  rw [sIndex_L1_eq] at hh3
  cases c8 : decide (v2 < ((a0.length : Nat) : Int))
  · simp only [c8, cond_false] at hh3
    simp only [Option.bind_some, nextO_inr] at hh3
    obtain rfl := Option.some.inj hh3
    try dsimp only at hr
    obtain rfl := Option.some.inj hr
    try simp only [go_sem, c8]
    all_goals (try refine end_pure ?_)
    all_goals (try simp only [go_sem, c8])
    all_goals (try (first | rfl | exact ⟨rfl, rfl⟩ | (simp; done)))
  simp only [c8, cond_true] at hh3
  rcases g10 : idxO a0 v2 with _ | x9
  · simp only [g10, Option.bind_none, reduceCtorEq] at hh3
  simp only [g10, Option.bind_some] at hh3
  have f11 := idxO_rng g10
  have f12 : (encI a0).getD (Int.toNat v2) [] = [(.int .i64 x9)] := idxO_map _ g10
  cases c13 : decide (a1 = x9)
  · simp only [c13, cond_false] at hh3
    simp only [Option.bind_some, nextO_inl] at hh3
    try simp only [go_sem, c8, f11, f12, c13]
    exact ih4 (IntKind.i64.wrap (v2 + 1)) _ hh3 ((Wk.forget (by simp [Le, LeE, LeH, get, envIds, hpIds, KeepH, D.ids, idsL, AO.ids, setL, base, encI_nil, encS_nil, encT_nil, encG_nil, encC_nil, encL_nil, encK_nil, encP_nil, mpS_nil, mpB_nil, encI_consE, encS_consE, encT_consE, encG_consE, encI_one, encS_one, encT_one, encI_snoc, encS_snoc, encT_snocE, encG_snocE, encC_snoc, encL_snoc, encK_snocE, encP_snocE, encI_set, encS_set, encT_setE, encG_setE, encC_setE, encK_setE, encP_setE, encI_len, encS_len, encT_len2, encG_len2, encC_len, encL_len, encK_len2, encP_len2])))
  simp only [c13, cond_true] at hh3
  simp only [Option.bind_some, nextO_inr] at hh3
  obtain rfl := Option.some.inj hh3
  try dsimp only at hr
  obtain rfl := Option.some.inj hr
  try simp only [go_sem, c8, f11, f12, c13]
  all_goals (try refine end_pure ?_)
  all_goals (try simp only [go_sem, c8, f11, f12, c13])
  all_goals (try (first | rfl | exact ⟨rfl, rfl⟩ | (simp; done)))
noncomputable def sMin_L1 (a0 : List Int) : Int × Int → Option ((Int × Int) ⊕ ((Int × Int)))
  | (v8, v9) => cond (decide (v9 < ((a0.length : Nat) : Int))) (Option.bind (idxO a0 v9) fun x16 => some (Sum.inl ((if x16 < v8 then x16 else v8), (IntKind.i64.wrap (v9 + 1))))) (some (Sum.inr (v8, v9)))
theorem sMin_L1_eq (a0 : List Int) (v8 : Int) (v9 : Int) : sMin_L1 a0 (v8, v9) = cond (decide (v9 < ((a0.length : Nat) : Int))) (Option.bind (idxO a0 v9) fun x16 => some (Sum.inl ((if x16 < v8 then x16 else v8), (IntKind.i64.wrap (v9 + 1))))) (some (Sum.inr (v8, v9))) := rfl
noncomputable def sMin_v (a0 : List Int) : Option (Int) :=
  cond (decide (((a0.length : Nat) : Int) < 1)) none (Option.bind (idxO a0 0) fun x2 => Option.bind (loopO (sMin_L1 a0) (x2, 1)) (fun (v20, v21) => some v20))
theorem sMin_vok (a0 : List Int) (r : Int) (hr : sMin_v a0 = some r) :
    ACalls Try.prog 98 [.p (.sl (encI a0))] [] fun h d => h = [] ∧ d = .p (.int .i64 r) := by
  refine ACalls_X Try.func98 rfl enters98 (by simp [Try.f98]) ?_
  unfold sMin_v at hr
  cases c1 : decide (((a0.length : Nat) : Int) < 1)
  · simp only [c1, cond_false] at hr
    rcases g3 : idxO a0 0 with _ | x2
    · simp only [g3, Option.bind_none, reduceCtorEq] at hr
    simp only [g3, Option.bind_some] at hr
    have f4 := idxO_rng g3
    have f5 : (encI a0).getD 0 [] = [(.int .i64 x2)] := idxO_map _ g3
    rcases g14 : loopO (sMin_L1 a0) (x2, 1) with _ | e13
    · simp only [g14, Option.bind_none, reduceCtorEq] at hr
    simp only [g14, Option.bind_some] at hr
    try simp only [go_sem, c1, f4, f5]
    refine X_loopO g14 (fun q : Int × Int => ⟨[(0, .p (.sl (encI a0))), (3, .p (.int .i64 q.1)), (4, .p (.int .i64 q.2))], [], 25⟩) ((Wk.forget (by simp [Le, LeE, LeH, get, envIds, hpIds, KeepH, D.ids, idsL, AO.ids, setL, base, encI_nil, encS_nil, encT_nil, encG_nil, encC_nil, encL_nil, encK_nil, encP_nil, mpS_nil, mpB_nil, encI_consE, encS_consE, encT_consE, encG_consE, encI_one, encS_one, encT_one, encI_snoc, encS_snoc, encT_snocE, encG_snocE, encC_snoc, encL_snoc, encK_snocE, encP_snocE, encI_set, encS_set, encT_setE, encG_setE, encC_setE, encK_setE, encP_setE, encI_len, encS_len, encT_len2, encG_len2, encC_len, encL_len, encK_len2, encP_len2]))) ?_
    rintro ⟨v8, v9⟩ m12 hh10 ih11
    rw [sMin_L1_eq] at hh10
    cases c15 : decide (v9 < ((a0.length : Nat) : Int))
    · simp only [c15, cond_false] at hh10
      simp only [Option.bind_some, nextO_inr] at hh10
      obtain rfl := Option.some.inj hh10
      try dsimp only at hr
      obtain rfl := Option.some.inj hr
      try simp only [go_sem, c1, f4, f5, c15]
      all_goals (try refine end_pure ?_)
      all_goals (try simp only [go_sem, c1, f4, f5, c15])
      all_goals (try (first | rfl | exact ⟨rfl, rfl⟩ | (simp; done)))
    simp only [c15, cond_true] at hh10
    rcases g17 : idxO a0 v9 with _ | x16
    · simp only [g17, Option.bind_none, reduceCtorEq] at hh10
    simp only [g17, Option.bind_some] at hh10
    have f18 := idxO_rng g17
    have f19 : (encI a0).getD (Int.toNat v9) [] = [(.int .i64 x16)] := idxO_map _ g17
    simp only [Option.bind_some, nextO_inl] at hh10
    try simp only [go_sem, c1, f4, f5, c15, f18, f19]
    exact ih11 ((if x16 < v8 then x16 else v8), (IntKind.i64.wrap (v9 + 1))) _ hh10 ((Wk.forget (by simp [Le, LeE, LeH, get, envIds, hpIds, KeepH, D.ids, idsL, AO.ids, setL, base, encI_nil, encS_nil, encT_nil, encG_nil, encC_nil, encL_nil, encK_nil, encP_nil, mpS_nil, mpB_nil, encI_consE, encS_consE, encT_consE, encG_consE, encI_one, encS_one, encT_one, encI_snoc, encS_snoc, encT_snocE, encG_snocE, encC_snoc, encL_snoc, encK_snocE, encP_snocE, encI_set, encS_set, encT_setE, encG_setE, encC_setE, encK_setE, encP_setE, encI_len, encS_len, encT_len2, encG_len2, encC_len, encL_len, encK_len2, encP_len2])))
  simp only [c1, cond_true] at hr
  simp at hr
end Go.Am
end
section
namespace Go.Am
open Go Go.Proofs
set_option maxRecDepth 100000
set_option linter.unusedVariables false
set_option linter.unusedSimpArgs false
def okE (n v : Nat) (r : List Int) (i : Nat) : Bool := !decide (r.getD i 0 < 0) && !decide ((n : Int) ≤ r.getD i 0) && !decide (r.getD i 0 = (v : Int)) && (decide (i = 0) || !decide (r.getD i 0 ≤ r.getD (i - 1) 0))
def okR (n v : Nat) (r : List Int) : Prop := ∀ i, i < r.length → okE n v r i = true
instance (n v : Nat) (r : List Int) : Decidable (okR n v r) := by unfold okR; infer_instance
theorem cL1 (g : List (List Int)) (v : Nat) (r : List Int) (hr : r.length ≤ 2000000) :
    loopO (cCheck_L1 g (v : Nat) r) 0 = some (if okR g.length v r then .inl ((r.length : Nat) : Int) else .inr 20) := by
  refine loopO_all r.length (fun i => ((i : Nat) : Int)) _ _ (okE g.length v r) ?_ ?_
  · intro i hi _
    rw [cCheck_L1_eq, lt_c hi, cond_true, idxO_at r i 0 hi, Option.bind_some]
    unfold okE
    cases c1 : decide (r.getD i 0 < 0)
    · cases c2 : decide ((g.length : Int) ≤ r.getD i 0)
      · cases c3 : decide (r.getD i 0 = (v : Int))
        · rcases i with _ | i
          · have c4 : decide (0 < (((0 : Nat) : Int))) = false := by decide
            simp only [cond_false, c4]
            rw [wrap_sm (by omega)]
            simp
          · have c4 : decide (0 < (((i + 1 : Nat) : Int))) = true := decide_eq_true (by omega)
            have e1 : IntKind.i64.wrap (((i + 1 : Nat) : Int) - 1) = ((i : Nat) : Int) := by
              simp [IntKind.wrap, IntKind.bits, IntKind.signed]; omega
            simp only [cond_false, cond_true, c4, e1]
            rw [idxO_at r i 0 (by omega), Option.bind_some, wrap_sm (by omega)]
            have e2 : i + 1 - 1 = i := rfl
            rw [e2]
            cases c5 : decide (r.getD (i + 1) 0 ≤ r.getD i 0) <;> simp
        · simp
      · simp
    · simp
  · intro _
    rw [cCheck_L1_eq, lt_n, cond_false]
theorem cL2 (g : List (List Int)) (hn : g.length ≤ 2000000) (hr : ∀ v, v < g.length → (g.getD v []).length ≤ 2000000) :
    loopO (cCheck_L2 g) 0 = some (if ∀ v, v < g.length → decide (okR g.length v (g.getD v [])) = true then .inl ((g.length : Nat) : Int) else .inr 20) := by
  refine loopO_all g.length (fun i => ((i : Nat) : Int)) _ _ (fun v => decide (okR g.length v (g.getD v []))) ?_ ?_
  · intro v hv _
    rw [cCheck_L2_eq, lt_c hv, cond_true, idxO_at g v [] hv, Option.bind_some, cL1 g v _ (hr v hv), Option.bind_some]
    by_cases h : okR g.length v (g.getD v [])
    · rw [if_pos h, if_pos (decide_eq_true h)]
      simp only
      rw [wrap_sm (by omega)]
    · rw [if_neg h, if_neg (fun h9 => h (of_decide_eq_true h9))]
  · intro _
    rw [cCheck_L2_eq, lt_n, cond_false]
theorem cCheck_eq (g : List (List Int)) (sh : List Bool) (hr : ∀ v, v < g.length → (g.getD v []).length ≤ 2000000) :
    cCheck_v g sh = some (if 24 < g.length then 20 else if ∀ v, v < g.length → decide (okR g.length v (g.getD v [])) = true then (if sh.length = g.length then 0 else 19) else 20) := by
  unfold cCheck_v
  by_cases h1 : 24 < g.length
  · rw [if_pos h1, decide_eq_true (by omega), cond_true]
  · rw [if_neg h1, decide_eq_false (by omega), cond_false, cL2 g (by omega) hr, Option.bind_some]
    by_cases h2 : ∀ v, v < g.length → decide (okR g.length v (g.getD v [])) = true
    · rw [if_pos h2, if_pos h2]
      simp only
      by_cases h3 : sh.length = g.length
      · rw [if_pos h3, decide_eq_true (by omega), cond_true]
      · rw [if_neg h3, decide_eq_false (by omega), cond_false]
    · rw [if_neg h2, if_neg h2]
theorem okR_rng {n v : Nat} {r : List Int} (h : okR n v r) (k : Nat) (hk : k < r.length) : ∃ w : Nat, r.getD k 0 = (w : Int) ∧ w < n := by
  have := h k hk
  unfold okE at this
  simp only [Bool.and_eq_true, Bool.not_eq_true', decide_eq_false_iff_not] at this
  obtain ⟨⟨⟨h1, h2⟩, _⟩, _⟩ := this
  exact ⟨(r.getD k 0).toNat, by omega, by omega⟩
theorem check_rng {g : List (List Int)} {sh : List Bool} (hr : ∀ v, v < g.length → (g.getD v []).length ≤ 2000000) (h : cCheck_v g sh = some 0) :
    g.length ≤ 24 ∧ sh.length = g.length ∧ ∀ v k, k < (g.getD v []).length → ∃ w : Nat, (g.getD v []).getD k 0 = (w : Int) ∧ w < g.length := by
  rw [cCheck_eq g sh hr] at h
  have h := Option.some.inj h
  split at h
  · cases h
  rename_i h1
  split at h
  case isFalse => cases h
  rename_i h2
  split at h
  case isFalse => cases h
  rename_i h3
  refine ⟨by omega, h3, fun v k hk => ?_⟩
  by_cases hv : v < g.length
  · exact okR_rng (of_decide_eq_true (h2 v hv)) k hk
  · rw [List.getD, List.getElem?_eq_none (by omega)] at hk
    exact absurd hk (Nat.not_lt_zero _)
end Go.Am
end
section
namespace Go.Am
set_option linter.unusedSimpArgs false
def Ed (g : List (List Int)) (sh : List Bool) (v w : Nat) : Prop := (w : Int) ∈ g.getD v [] ∧ sh.getD w false = false
inductive Rch (g : List (List Int)) (sh : List Bool) : Nat → Nat → Prop
  | refl (v : Nat) : Rch g sh v v
  | tail {u v w : Nat} (h : Rch g sh u v) (e : Ed g sh v w) : Rch g sh u w
theorem Rch.trans {g : List (List Int)} {sh : List Bool} {u v w : Nat} (h : Rch g sh u v) (k : Rch g sh v w) : Rch g sh u w := by
  induction k with
  | refl => exact h
  | tail _ e ih => exact ih.tail e
def IsNm (g : List (List Int)) (sh : List Bool) (v : Nat) (x : Int) : Prop := ∃ y : Nat, x = (y : Int) ∧ Rch g sh v y ∧ Rch g sh y v ∧ ∀ z, Rch g sh v z → Rch g sh z v → y ≤ z
structure Sr where
  seen : List Nat
  low : List Nat
  at_ : List Nat
  path : List Nat
  held : List Nat
  count : Nat
  names : List Int
def Sr.sn (s : Sr) (v : Nat) : Nat := s.seen.getD v 0
def Sr.lw (s : Sr) (v : Nat) : Nat := s.low.getD v 0
def Sr.ad (s : Sr) (v : Nat) : Nat := s.at_.getD v 0
def Sr.nm (s : Sr) (v : Nat) : Int := s.names.getD v (-1)
structure TJ (g : List (List Int)) (sh : List Bool) (pend : Nat → Prop) (s : Sr) : Prop where
  l1 : s.seen.length = g.length
  l2 : s.low.length = g.length
  l3 : s.at_.length = g.length
  l4 : s.names.length = g.length
  rng : ∀ v k, k < (g.getD v []).length → ∃ w : Nat, (g.getD v []).getD k 0 = (w : Int) ∧ w < g.length
  cnt : ∀ v, s.sn v ≤ s.count
  inj : ∀ v w, s.sn v = s.sn w → s.sn v ≠ 0 → v = w
  opn : ∀ v, s.sn v ≠ 0 → v < g.length ∧ sh.getD v false = false
  at0 : ∀ v, s.sn v = 0 → s.ad v = 0
  atl : ∀ v, s.ad v ≤ (g.getD v []).length
  hld : ∀ v, v ∈ s.held ↔ s.sn v ≠ 0 ∧ s.nm v < 0
  hso : s.held.Pairwise fun a b => s.sn a < s.sn b
  pth : ∀ p ∈ s.path, p ∈ s.held
  pso : s.path.Pairwise fun a b => s.sn a < s.sn b
  nms : ∀ v, 0 ≤ s.nm v → s.sn v ≠ 0 ∧ IsNm g sh v (s.nm v)
  nmc : ∀ v w, 0 ≤ s.nm v → Ed g sh v w → 0 ≤ s.nm w
  fin : ∀ x ∈ s.held, x ∉ s.path → s.ad x = (g.getD x []).length ∧ s.lw x < s.sn x
  edg : ∀ x ∈ s.held, ∀ k, k < s.ad x → ∀ w : Nat, (g.getD x []).getD k 0 = (w : Int) → sh.getD w false = false → (s.sn w = 0 → pend w) ∧ (w ∈ s.held → s.lw x ≤ s.sn w)
  low : ∀ x ∈ s.held, s.lw x ≤ s.sn x ∧ ∃ u ∈ s.held, s.sn u = s.lw x ∧ Rch g sh x u
  rch : ∀ p ∈ s.path, ∀ x ∈ s.held, s.sn p ≤ s.sn x → Rch g sh p x
  own : ∀ p ∈ s.path, ∀ x ∈ s.held, x ∉ s.path → s.sn p < s.sn x → (∀ q ∈ s.path, s.sn q ≤ s.sn x → s.sn q ≤ s.sn p) → s.lw p ≤ s.lw x
  anc : ∀ x ∈ s.held, ∃ p ∈ s.path, s.sn p ≤ s.sn x
  nmx : ∀ v, s.nm v < 0 → s.nm v = -1
def Sr.enter (s : Sr) (v : Nat) : Sr := { s with count := s.count + 1, seen := s.seen.set v (s.count + 1), low := s.low.set v (s.count + 1), path := s.path ++ [v], held := s.held ++ [v] }
def noP : Nat → Prop := fun _ => False
theorem TJ.enter {g : List (List Int)} {sh : List Bool} {s : Sr} {v : Nat} (h : TJ g sh (fun w => w = v) s) (hv : v < g.length) (ho : sh.getD v false = false) (h0 : s.sn v = 0) (hp : ∀ p ∈ s.path, Rch g sh p v) : TJ g sh noP (s.enter v) := by
  have sn' : ∀ w, (s.enter v).sn w = if w = v then s.count + 1 else s.sn w := fun w => getD_setx _ _ _ _ _ (by rw [h.l1]; exact hv)
  have lw' : ∀ w, (s.enter v).lw w = if w = v then s.count + 1 else s.lw w := fun w => getD_setx _ _ _ _ _ (by rw [h.l2]; exact hv)
  have hvh : v ∉ s.held := fun hm => ((h.hld v).1 hm).1 h0
  have hne : ∀ x ∈ s.held, x ≠ v := fun x hx e => hvh (e ▸ hx)
  have mh : ∀ x, x ∈ (s.enter v).held ↔ x ∈ s.held ∨ x = v := fun x => by simp [Sr.enter]
  have mp : ∀ x, x ∈ (s.enter v).path ↔ x ∈ s.path ∨ x = v := fun x => by simp [Sr.enter]
  have snh : ∀ x ∈ s.held, (s.enter v).sn x = s.sn x := fun x hx => by rw [sn', if_neg (hne x hx)]
  have lwh : ∀ x ∈ s.held, (s.enter v).lw x = s.lw x := fun x hx => by rw [lw', if_neg (hne x hx)]
  have snv : (s.enter v).sn v = s.count + 1 := by rw [sn', if_pos rfl]
  have lwv : (s.enter v).lw v = s.count + 1 := by rw [lw', if_pos rfl]
  have nmv : s.nm v < 0 := by
    rcases Int.lt_or_le (s.nm v) 0 with h1 | h1
    · exact h1
    · exact absurd h0 (h.nms v h1).1
  refine ⟨by simp [Sr.enter, h.l1], by simp [Sr.enter, h.l2], h.l3, h.l4, h.rng, ?_, ?_, ?_, ?_, h.atl, ?_, ?_, ?_, ?_, ?_, h.nmc, ?_, ?_, ?_, ?_, ?_, ?_, h.nmx⟩
  · intro w; rw [sn']; have := h.cnt w; show _ ≤ s.count + 1; split <;> omega
  · intro a b; rw [sn', sn']
    have ha := h.cnt a; have hb := h.cnt b
    by_cases e1 : a = v
    · by_cases e2 : b = v
      · intros; omega
      · rw [if_pos e1, if_neg e2]; intros; omega
    · by_cases e2 : b = v
      · rw [if_neg e1, if_pos e2]; intros; omega
      · rw [if_neg e1, if_neg e2]; exact h.inj a b
  · intro w; rw [sn']; split
    · rename_i e; subst e; exact fun _ => ⟨hv, ho⟩
    · exact h.opn w
  · intro w; rw [sn']; split
    · intro; omega
    · exact h.at0 w
  · intro w; rw [mh, sn']
    by_cases e : w = v
    · subst e; simp only [or_true, if_true, true_iff]; exact ⟨by omega, nmv⟩
    · rw [if_neg e]; simp only [e, or_false]; rw [h.hld]; exact Iff.rfl
  · show (s.held ++ [v]).Pairwise _
    rw [List.pairwise_append]
    refine ⟨?_, by simp, fun a ha b hb => ?_⟩
    · exact List.Pairwise.imp_of_mem (fun ha hb hab => by rw [snh _ ha, snh _ hb]; exact hab) h.hso
    · rw [List.mem_singleton.1 hb, snh a ha, snv]; have := h.cnt a; omega
  · intro p hp'; rw [mh]; rcases (mp p).1 hp' with h1 | h1
    · exact .inl (h.pth p h1)
    · exact .inr h1
  · show (s.path ++ [v]).Pairwise _
    rw [List.pairwise_append]
    refine ⟨?_, by simp, fun a ha b hb => ?_⟩
    · exact List.Pairwise.imp_of_mem (fun ha hb hab => by rw [snh _ (h.pth _ ha), snh _ (h.pth _ hb)]; exact hab) h.pso
    · rw [List.mem_singleton.1 hb, snh a (h.pth a ha), snv]; have := h.cnt a; omega
  · intro w hw
    have := h.nms w hw
    refine ⟨?_, this.2⟩
    rw [sn']; split
    · omega
    · exact this.1
  · intro x hx' hp'
    rcases (mh x).1 hx' with h1 | h1
    · have hnp : x ∉ s.path := fun hm => hp' ((mp x).2 (.inl hm))
      rw [lwh x h1, snh x h1]; exact h.fin x h1 hnp
    · exact absurd ((mp x).2 (.inr h1)) hp'
  · intro x hx' k hk w hw how
    have hk' : k < s.ad x := hk
    rcases (mh x).1 hx' with h1 | h1
    · obtain ⟨a, b⟩ := h.edg x h1 k hk' w hw how
      by_cases hwv : w = v
      · rw [sn', if_pos hwv, lwh x h1]
        have h3 := (h.low x h1).1
        have h4 := h.cnt x
        exact ⟨fun h => by omega, fun _ => by omega⟩
      · rw [sn', if_neg hwv, lwh x h1]
        refine ⟨fun h5 => absurd (a h5) hwv, fun hm => ?_⟩
        rcases (mh w).1 hm with h2 | h2
        · exact b h2
        · exact absurd h2 hwv
    · subst h1
      have := h.at0 x h0
      omega
  · intro x hx'
    rcases (mh x).1 hx' with h1 | h1
    · obtain ⟨a, u, b, c, d⟩ := h.low x h1
      rw [lwh x h1, snh x h1]
      exact ⟨a, u, (mh u).2 (.inl b), by rw [snh u b]; exact c, d⟩
    · subst h1
      rw [lwv, snv]
      exact ⟨Nat.le_refl _, x, (mh x).2 (.inr rfl), snv, .refl x⟩
  · intro p hp' x hx'
    rcases (mp p).1 hp' with h1 | h1
    · rcases (mh x).1 hx' with h2 | h2
      · rw [snh p (h.pth p h1), snh x h2]; exact h.rch p h1 x h2
      · subst h2; intro _; exact hp p h1
    · subst h1
      rcases (mh x).1 hx' with h2 | h2
      · rw [snv, snh x h2]; have := h.cnt x; intro; omega
      · subst h2; intro _; exact .refl x
  · intro p hp' x hx' hnp hlt hq
    rcases (mh x).1 hx' with h2 | h2
    · have hnp' : x ∉ s.path := fun hm => hnp ((mp x).2 (.inl hm))
      rcases (mp p).1 hp' with h1 | h1
      · rw [lwh p (h.pth p h1), lwh x h2]
        rw [snh p (h.pth p h1), snh x h2] at hlt
        refine h.own p h1 x h2 hnp' hlt fun q hq1 hq2 => ?_
        have := hq q ((mp q).2 (.inl hq1))
        rw [snh q (h.pth q hq1), snh x h2, snh p (h.pth p h1)] at this
        exact this hq2
      · subst h1
        rw [snv, snh x h2] at hlt
        have := h.cnt x; omega
    · exact absurd ((mp x).2 (.inr h2)) hnp
  · intro x hx'
    rcases (mh x).1 hx' with h2 | h2
    · obtain ⟨p, h3, h4⟩ := h.anc x h2
      exact ⟨p, (mp p).2 (.inl h3), by rw [snh p (h.pth p h3), snh x h2]; exact h4⟩
    · exact ⟨v, (mp v).2 (.inr rfl), by rw [h2]; exact Nat.le_refl _⟩
theorem TJ.last {g : List (List Int)} {sh : List Bool} {pend : Nat → Prop} {s : Sr} (h : TJ g sh pend s) {ps : List Nat} {v : Nat} (hp : s.path = ps ++ [v]) : v ∈ s.path ∧ v ∈ s.held ∧ v < g.length ∧ sh.getD v false = false ∧ (∀ q ∈ s.path, s.sn q ≤ s.sn v) ∧ (∀ q ∈ ps, s.sn q < s.sn v) ∧ v ∉ ps := by
  have hv : v ∈ s.path := by rw [hp]; simp
  have hh := h.pth v hv
  have ho := h.opn v ((h.hld v).1 hh).1
  have hlt : ∀ q ∈ ps, s.sn q < s.sn v := by
    have := h.pso
    rw [hp, List.pairwise_append] at this
    exact fun q hq => this.2.2 q hq v (by simp)
  refine ⟨hv, hh, ho.1, ho.2, fun q hq => ?_, hlt, fun hm => ?_⟩
  · rw [hp] at hq
    rcases List.mem_append.1 hq with h1 | h1
    · exact Nat.le_of_lt (hlt q h1)
    · rw [List.mem_singleton.1 h1]; exact Nat.le_refl _
  · have := hlt v hm; omega
theorem TJ.step {g : List (List Int)} {sh : List Bool} {s s' : Sr} {pend : Nat → Prop} (h : TJ g sh noP s) {ps : List Nat} {v w L : Nat} (hp : s.path = ps ++ [v]) (hk : s.ad v < (g.getD v []).length) (hw : (g.getD v []).getD (s.ad v) 0 = (w : Int))
    (e1 : s'.seen = s.seen) (e2 : ∀ x, s'.lw x = if x = v then L else s.lw x) (e2' : s'.low.length = s.low.length) (e3 : ∀ x, s'.ad x = if x = v then s.ad v + 1 else s.ad x) (e3' : s'.at_.length = s.at_.length)
    (e4 : s'.path = s.path) (e5 : s'.held = s.held) (e6 : s'.count = s.count) (e7 : s'.names = s.names)
    (hL : L ≤ s.lw v) (hu : ∃ u ∈ s.held, s.sn u = L ∧ Rch g sh v u) (hq : sh.getD w false = false → (s.sn w = 0 → pend w) ∧ (w ∈ s.held → L ≤ s.sn w)) : TJ g sh pend s' := by
  obtain ⟨hvp, hvh, hvn, hvo, hmax, _, _⟩ := h.last hp
  have sn' : ∀ x, s'.sn x = s.sn x := fun x => by unfold Sr.sn; rw [e1]
  have nm' : ∀ x, s'.nm x = s.nm x := fun x => by unfold Sr.nm; rw [e7]
  refine ⟨by rw [e1]; exact h.l1, by rw [e2']; exact h.l2, by rw [e3']; exact h.l3, by rw [e7]; exact h.l4, h.rng, ?_, ?_, ?_, ?_, ?_, ?_, ?_, ?_, ?_, ?_, ?_, ?_, ?_, ?_, ?_, ?_, ?_, fun x => by rw [nm']; exact h.nmx x⟩
  · intro x; rw [sn', e6]; exact h.cnt x
  · intro a b; rw [sn', sn']; exact h.inj a b
  · intro x; rw [sn']; exact h.opn x
  · intro x; rw [sn', e3]; split
    · rename_i e; subst e; intro h0; exact absurd h0 ((h.hld x).1 hvh).1
    · exact h.at0 x
  · intro x; rw [e3]; split
    · rename_i e; subst e; omega
    · exact h.atl x
  · intro x; rw [e5, sn', nm']; exact h.hld x
  · rw [e5]; exact h.hso.imp fun hab => by rw [sn', sn']; exact hab
  · rw [e4, e5]; exact h.pth
  · rw [e4]; exact h.pso.imp fun hab => by rw [sn', sn']; exact hab
  · intro x; rw [nm', sn']; exact h.nms x
  · intro x y; rw [nm', nm']; exact h.nmc x y
  · intro x hx hnp
    rw [e5] at hx; rw [e4] at hnp
    have hne : x ≠ v := fun e => hnp (e ▸ hvp)
    rw [e3, e2, sn', if_neg hne, if_neg hne]; exact h.fin x hx hnp
  · intro x hx k hk' y hy hyo
    rw [e5] at hx
    rw [e3] at hk'
    rw [sn', e5, e2]
    by_cases hxv : x = v
    · subst hxv
      rw [if_pos rfl] at hk' ⊢
      by_cases hk2 : k = s.ad x
      · subst hk2
        rw [hw] at hy
        obtain rfl : w = y := by omega
        exact hq hyo
      · obtain ⟨a, b⟩ := h.edg x hx k (by omega) y hy hyo
        exact ⟨fun h0 => (a h0).elim, fun hm => Nat.le_trans hL (b hm)⟩
    · rw [if_neg hxv] at hk' ⊢
      obtain ⟨a, b⟩ := h.edg x hx k hk' y hy hyo
      exact ⟨fun h0 => (a h0).elim, b⟩
  · intro x hx
    rw [e5] at hx
    obtain ⟨a, u, b, c, d⟩ := h.low x hx
    rw [e2, sn']
    by_cases hxv : x = v
    · subst hxv
      rw [if_pos rfl]
      obtain ⟨u2, b2, c2, d2⟩ := hu
      exact ⟨by omega, u2, by rw [e5]; exact b2, by rw [sn']; exact c2, d2⟩
    · rw [if_neg hxv]
      exact ⟨a, u, by rw [e5]; exact b, by rw [sn']; exact c, d⟩
  · intro p hp' x hx
    rw [e4] at hp'; rw [e5] at hx
    rw [sn', sn']; exact h.rch p hp' x hx
  · intro p hp' x hx hnp hlt hq'
    rw [e4] at hp' hnp hq'; rw [e5] at hx
    rw [sn', sn'] at hlt
    have hne : x ≠ v := fun e => hnp (e ▸ hvp)
    have := h.own p hp' x hx hnp hlt fun q h1 h2 => by have := hq' q h1; rw [sn', sn', sn'] at this; exact this h2
    rw [e2, e2, if_neg hne]
    split
    · rename_i e; subst e; omega
    · exact this
  · intro x hx
    rw [e5] at hx
    obtain ⟨p, h1, h2⟩ := h.anc x hx
    exact ⟨p, by rw [e4]; exact h1, by rw [sn', sn']; exact h2⟩
theorem mem_edge {g : List (List Int)} {sh : List Bool} {x w : Nat} (h : Ed g sh x w) : ∃ k, k < (g.getD x []).length ∧ (g.getD x []).getD k 0 = (w : Int) := by
  obtain ⟨k, hk, he⟩ := List.mem_iff_getElem.1 h.1
  refine ⟨k, hk, ?_⟩
  generalize g.getD x [] = l at *
  rw [← he]; simp [List.getD, hk]
theorem TJ.named {g : List (List Int)} {sh : List Bool} {pend : Nat → Prop} {s : Sr} (h : TJ g sh pend s) {v w : Nat} (hv : 0 ≤ s.nm v) (hr : Rch g sh v w) : 0 ≤ s.nm w := by
  induction hr with
  | refl => exact hv
  | tail _ e ih => exact h.nmc _ _ ih e
theorem TJ.comp {g : List (List Int)} {sh : List Bool} {s : Sr} (h : TJ g sh noP s) {ps : List Nat} {v : Nat} (hp : s.path = ps ++ [v]) (ha : s.ad v = (g.getD v []).length) (hl : s.lw v = s.sn v) :
    (∀ x ∈ s.held, s.sn v ≤ s.sn x → s.lw v ≤ s.lw x ∧ Rch g sh v x ∧ Rch g sh x v ∧ ∀ y, Ed g sh x y → 0 ≤ s.nm y ∨ (y ∈ s.held ∧ s.sn v ≤ s.sn y)) ∧ ∀ y, Rch g sh v y → Rch g sh y v → y ∈ s.held ∧ s.sn v ≤ s.sn y := by
  obtain ⟨hvp, hvh, hvn, hvo, hmax, _, _⟩ := h.last hp
  have hlow : ∀ x ∈ s.held, s.sn v ≤ s.sn x → s.lw v ≤ s.lw x ∧ (x = v ∨ x ∉ s.path) := by
    intro x hx hsx
    by_cases hxv : x = v
    · exact ⟨by rw [hxv]; exact Nat.le_refl _, .inl hxv⟩
    · have hne : s.sn v ≠ s.sn x := fun e => hxv (h.inj x v e.symm ((h.hld x).1 hx).1)
      have hnp : x ∉ s.path := fun hm => by have := hmax x hm; omega
      exact ⟨h.own v hvp x hx hnp (by omega) fun q hq _ => hmax q hq, .inr hnp⟩
  have hback : ∀ n, ∀ x ∈ s.held, s.sn v ≤ s.sn x → s.sn x ≤ n → Rch g sh x v := by
    intro n
    induction n with
    | zero => intro x hx _ h0; exact absurd (Nat.le_zero.1 h0) ((h.hld x).1 hx).1
    | succ n ih =>
      intro x hx hsx hn
      obtain ⟨hlo, hor⟩ := hlow x hx hsx
      rcases hor with rfl | hnp
      · exact .refl _
      · obtain ⟨_, hf⟩ := h.fin x hx hnp
        obtain ⟨_, u, hu, hul, hru⟩ := h.low x hx
        exact hru.trans (ih u hu (by omega) (by omega))
  have hcl : ∀ x ∈ s.held, s.sn v ≤ s.sn x → ∀ y, Ed g sh x y → 0 ≤ s.nm y ∨ (y ∈ s.held ∧ s.sn v ≤ s.sn y) := by
    intro x hx hsx y hy
    obtain ⟨hlo, hor⟩ := hlow x hx hsx
    have hall : s.ad x = (g.getD x []).length := by
      rcases hor with rfl | hnp
      · exact ha
      · exact (h.fin x hx hnp).1
    obtain ⟨k, hk, hky⟩ := mem_edge hy
    obtain ⟨a, b⟩ := h.edg x hx k (by omega) y hky hy.2
    have hsy : s.sn y ≠ 0 := fun e => (a e).elim
    rcases Int.lt_or_le (s.nm y) 0 with h1 | h1
    · have hyh := (h.hld y).2 ⟨hsy, h1⟩
      have := b hyh
      exact .inr ⟨hyh, by omega⟩
    · exact .inl h1
  refine ⟨fun x hx hsx => ⟨(hlow x hx hsx).1, h.rch v hvp x hx hsx, hback _ x hx hsx (Nat.le_refl _), hcl x hx hsx⟩, fun y h1 h2 => ?_⟩
  have key : ∀ y, Rch g sh v y → 0 ≤ s.nm y ∨ (y ∈ s.held ∧ s.sn v ≤ s.sn y) := by
    intro y hy
    induction hy with
    | refl => exact .inr ⟨hvh, Nat.le_refl _⟩
    | tail _ e ih =>
      rcases ih with h3 | h3
      · exact .inl (h.nmc _ _ h3 e)
      · exact hcl _ h3.1 h3.2 _ e
  rcases key y h1 with h3 | h3
  · have := h.named h3 h2
    have := ((h.hld v).1 hvh).2
    omega
  · exact h3
theorem TJ.complete {g : List (List Int)} {sh : List Bool} {s s' : Sr} (h : TJ g sh noP s) {ps : List Nat} {v : Nat} (hp : s.path = ps ++ [v]) (ha : s.ad v = (g.getD v []).length) (hl : s.lw v = s.sn v) {y0 : Nat}
    (hy : y0 ∈ s.held ∧ s.sn v ≤ s.sn y0) (hmin : ∀ z ∈ s.held, s.sn v ≤ s.sn z → y0 ≤ z)
    (e1 : s'.seen = s.seen) (e2 : s'.low = s.low) (e3 : s'.at_ = s.at_) (e4 : s'.path = ps) (e5 : ∀ x, x ∈ s'.held ↔ x ∈ s.held ∧ s.sn x < s.sn v) (e5' : s'.held.Pairwise fun a b => s.sn a < s.sn b) (e6 : s'.count = s.count)
    (e7 : ∀ x, s'.nm x = if x ∈ s.held ∧ s.sn v ≤ s.sn x then (y0 : Int) else s.nm x) (e7' : s'.names.length = s.names.length) : TJ g sh noP s' := by
  obtain ⟨hvp, hvh, hvn, hvo, hmax, hps, hvps⟩ := h.last hp
  obtain ⟨hK, hC⟩ := h.comp hp ha hl
  have sn' : ∀ x, s'.sn x = s.sn x := fun x => by unfold Sr.sn; rw [e1]
  have lw' : ∀ x, s'.lw x = s.lw x := fun x => by unfold Sr.lw; rw [e2]
  have ad' : ∀ x, s'.ad x = s.ad x := fun x => by unfold Sr.ad; rw [e3]
  have hsub : ∀ p ∈ ps, p ∈ s.path := fun p hp2 => by rw [hp]; simp [hp2]
  have hpsn : ∀ x ∈ s.held, s.sn x < s.sn v → x ∉ ps → x ∉ s.path := fun x hx hlt hn hm => by
    rw [hp] at hm
    rcases List.mem_append.1 hm with h1 | h1
    · exact hn h1
    · rw [List.mem_singleton.1 h1] at hlt; omega
  refine ⟨by rw [e1]; exact h.l1, by rw [e2]; exact h.l2, by rw [e3]; exact h.l3, by rw [e7']; exact h.l4, h.rng, ?_, ?_, ?_, ?_, ?_, ?_, ?_, ?_, ?_, ?_, ?_, ?_, ?_, ?_, ?_, ?_, ?_, fun x hx => by rw [e7] at hx ⊢; (by_cases hn : x ∈ s.held ∧ s.sn v ≤ s.sn x); (rw [if_pos hn] at hx; omega); (rw [if_neg hn] at hx ⊢; exact h.nmx x hx)⟩
  · intro x; rw [sn', e6]; exact h.cnt x
  · intro a b; rw [sn', sn']; exact h.inj a b
  · intro x; rw [sn']; exact h.opn x
  · intro x; rw [sn', ad']; exact h.at0 x
  · intro x; rw [ad']; exact h.atl x
  · intro x
    rw [e5, sn', e7]
    constructor
    · rintro ⟨hxh, c⟩
      obtain ⟨a, b⟩ := (h.hld x).1 hxh
      rw [if_neg (fun hh => by omega)]
      exact ⟨a, b⟩
    · rintro ⟨a, b⟩
      split at b
      · omega
      · rename_i hn
        refine ⟨(h.hld x).2 ⟨a, b⟩, ?_⟩
        rcases Nat.lt_or_ge (s.sn x) (s.sn v) with h1 | h1
        · exact h1
        · exact absurd ⟨(h.hld x).2 ⟨a, b⟩, h1⟩ hn
  · exact e5'.imp fun hab => by rw [sn', sn']; exact hab
  · intro p hp2
    rw [e4] at hp2
    exact (e5 p).2 ⟨h.pth p (hsub p hp2), hps p hp2⟩
  · rw [e4]
    have := h.pso
    rw [hp, List.pairwise_append] at this
    exact this.1.imp fun hab => by rw [sn', sn']; exact hab
  · intro x hx
    rw [e7] at hx ⊢
    rw [sn']
    split at hx
    · rename_i hin
      rw [if_pos hin]
      obtain ⟨_, k2, k3, _⟩ := hK x hin.1 hin.2
      obtain ⟨_, k5, k6, _⟩ := hK y0 hy.1 hy.2
      refine ⟨((h.hld x).1 hin.1).1, y0, rfl, k3.trans k5, k6.trans k2, fun z hz1 hz2 => ?_⟩
      obtain ⟨m1, m2⟩ := hC z (k2.trans hz1) (hz2.trans k3)
      exact hmin z m1 m2
    · rename_i hn
      rw [if_neg hn]
      exact h.nms x hx
  · intro x y hx hxy
    rw [e7] at hx ⊢
    split
    · omega
    · rename_i hny
      split at hx
      · rename_i hin
        rcases (hK x hin.1 hin.2).2.2.2 y hxy with h1 | h1
        · exact h1
        · exact absurd h1 hny
      · exact h.nmc x y hx hxy
  · intro x hx hnp
    rw [e4] at hnp
    obtain ⟨h1, h2⟩ := (e5 x).1 hx
    rw [ad', lw', sn']
    exact h.fin x h1 (hpsn x h1 h2 hnp)
  · intro x hx k hk y hy hyo
    obtain ⟨h1, h2⟩ := (e5 x).1 hx
    rw [ad'] at hk
    rw [sn', lw']
    obtain ⟨a, b⟩ := h.edg x h1 k hk y hy hyo
    exact ⟨a, fun hm => b ((e5 y).1 hm).1⟩
  · intro x hx
    obtain ⟨h1, h2⟩ := (e5 x).1 hx
    obtain ⟨a, u, b, c, d⟩ := h.low x h1
    rw [lw', sn']
    exact ⟨a, u, (e5 u).2 ⟨b, by omega⟩, by rw [sn']; exact c, d⟩
  · intro p hp2 x hx
    rw [e4] at hp2
    rw [sn', sn']
    exact h.rch p (hsub p hp2) x ((e5 x).1 hx).1
  · intro p hp2 x hx hnp hlt hq
    rw [e4] at hp2 hnp hq
    obtain ⟨h1, h2⟩ := (e5 x).1 hx
    rw [sn', sn'] at hlt
    rw [lw', lw']
    refine h.own p (hsub p hp2) x h1 (hpsn x h1 h2 hnp) hlt fun q hq1 hq2 => ?_
    rw [hp] at hq1
    rcases List.mem_append.1 hq1 with h3 | h3
    · have := hq q h3; rw [sn', sn', sn'] at this; exact this hq2
    · rw [List.mem_singleton.1 h3] at hq2; omega
  · intro x hx
    obtain ⟨h1, h2⟩ := (e5 x).1 hx
    obtain ⟨p, h3, h4⟩ := h.anc x h1
    rw [hp] at h3
    rcases List.mem_append.1 h3 with h5 | h5
    · exact ⟨p, by rw [e4]; exact h5, by rw [sn', sn']; exact h4⟩
    · rw [List.mem_singleton.1 h5] at h4; omega
theorem TJ.back {g : List (List Int)} {sh : List Bool} {s s' : Sr} (h : TJ g sh noP s) {ps : List Nat} {v t : Nat} (hp : s.path = ps ++ [t] ++ [v]) (ha : s.ad v = (g.getD v []).length) (hl : s.lw v ≠ s.sn v)
    (e1 : s'.seen = s.seen) (e2 : ∀ x, s'.lw x = if x = t then min (s.lw t) (s.lw v) else s.lw x) (e2' : s'.low.length = s.low.length) (e3 : s'.at_ = s.at_) (e4 : s'.path = ps ++ [t]) (e5 : s'.held = s.held) (e6 : s'.count = s.count) (e7 : s'.names = s.names) : TJ g sh noP s' := by
  obtain ⟨hvp, hvh, hvn, hvo, hmax, hps, hvps⟩ := h.last hp
  have sn' : ∀ x, s'.sn x = s.sn x := fun x => by unfold Sr.sn; rw [e1]
  have nm' : ∀ x, s'.nm x = s.nm x := fun x => by unfold Sr.nm; rw [e7]
  have ad' : ∀ x, s'.ad x = s.ad x := fun x => by unfold Sr.ad; rw [e3]
  have hlv := h.low v hvh
  have hsub : ∀ p ∈ ps ++ [t], p ∈ s.path := fun p hp2 => by rw [hp, List.mem_append]; exact .inl hp2
  have htp : t ∈ s.path := hsub t (by simp)
  have hth := h.pth t htp
  have htv : s.sn t < s.sn v := hps t (by simp)
  have hmt : ∀ q ∈ ps ++ [t], s.sn q ≤ s.sn t := by
    have := h.pso
    rw [hp, List.pairwise_append, List.pairwise_append] at this
    intro q hq
    rcases List.mem_append.1 hq with h1 | h1
    · exact Nat.le_of_lt (this.1.2.2 q h1 t (by simp))
    · rw [List.mem_singleton.1 h1]; exact Nat.le_refl _
  have hlt : s.lw v < s.sn v := by omega
  have hsplit : ∀ q, q ∈ s.path ↔ q ∈ ps ++ [t] ∨ q = v := fun q => by rw [hp, List.mem_append, List.mem_singleton]
  refine ⟨by rw [e1]; exact h.l1, by rw [e2']; exact h.l2, by rw [e3]; exact h.l3, by rw [e7]; exact h.l4, h.rng, ?_, ?_, ?_, ?_, ?_, ?_, ?_, ?_, ?_, ?_, ?_, ?_, ?_, ?_, ?_, ?_, ?_, fun x => by rw [nm']; exact h.nmx x⟩
  · intro x; rw [sn', e6]; exact h.cnt x
  · intro a b; rw [sn', sn']; exact h.inj a b
  · intro x; rw [sn']; exact h.opn x
  · intro x; rw [sn', ad']; exact h.at0 x
  · intro x; rw [ad']; exact h.atl x
  · intro x; rw [e5, sn', nm']; exact h.hld x
  · rw [e5]; exact h.hso.imp fun hab => by rw [sn', sn']; exact hab
  · intro p hp2; rw [e4] at hp2; rw [e5]; exact h.pth p (hsub p hp2)
  · rw [e4]
    have := h.pso
    rw [hp, List.pairwise_append] at this
    exact this.1.imp fun hab => by rw [sn', sn']; exact hab
  · intro x; rw [nm', sn']; exact h.nms x
  · intro x y; rw [nm', nm']; exact h.nmc x y
  · intro x hx hnp
    rw [e5] at hx; rw [e4] at hnp
    have hxt : x ≠ t := fun e => hnp (by rw [e]; simp)
    rw [ad', e2, if_neg hxt, sn']
    by_cases hxv : x = v
    · subst hxv; exact ⟨ha, hlt⟩
    · exact h.fin x hx fun hm => by exact ((hsplit x).1 hm).elim hnp hxv
  · intro x hx k hk y hy hyo
    rw [e5] at hx; rw [ad'] at hk
    rw [sn', e5, e2]
    obtain ⟨a, b⟩ := h.edg x hx k hk y hy hyo
    refine ⟨a, fun hm => ?_⟩
    have := b hm
    split
    · rename_i e; subst e; omega
    · exact this
  · intro x hx
    rw [e5] at hx
    obtain ⟨a, u, b, c, d⟩ := h.low x hx
    rw [e2, sn']
    by_cases hxt : x = t
    · subst hxt
      rw [if_pos rfl]
      refine ⟨by omega, ?_⟩
      rcases Nat.le_total (s.lw x) (s.lw v) with h1 | h1
      · exact ⟨u, by rw [e5]; exact b, by rw [sn', Nat.min_eq_left h1]; exact c, d⟩
      · obtain ⟨_, u2, b2, c2, d2⟩ := hlv
        exact ⟨u2, by rw [e5]; exact b2, by rw [sn', Nat.min_eq_right h1]; exact c2, (h.rch x htp v hvh (by omega)).trans d2⟩
    · rw [if_neg hxt]
      exact ⟨a, u, by rw [e5]; exact b, by rw [sn']; exact c, d⟩
  · intro p hp2 x hx
    rw [e4] at hp2; rw [e5] at hx
    rw [sn', sn']
    exact h.rch p (hsub p hp2) x hx
  · intro p hp2 x hx hnp hlt2 hq
    rw [e4] at hp2 hnp hq; rw [e5] at hx
    rw [sn', sn'] at hlt2
    have hxt : x ≠ t := fun e => hnp (by rw [e]; simp)
    have hq2 : ∀ q ∈ ps ++ [t], s.sn q ≤ s.sn x → s.sn q ≤ s.sn p := fun q h1 h2 => by have := hq q h1; rw [sn', sn', sn'] at this; exact this h2
    rw [e2, e2, if_neg hxt]
    have base : s.sn v ≤ s.sn x → p = t ∧ s.lw v ≤ s.lw x := by
      intro hvx
      have h1 := hq2 t (by simp) (by omega)
      have h2 := hmt p hp2
      have hpt : p = t := h.inj p t (by omega) ((h.hld p).1 (h.pth p (hsub p hp2))).1
      refine ⟨hpt, ?_⟩
      by_cases hxv : x = v
      · rw [hxv]; exact Nat.le_refl _
      · have hne : s.sn v ≠ s.sn x := fun e => hxv (h.inj x v e.symm ((h.hld x).1 hx).1)
        exact h.own v hvp x hx (fun hm => by exact ((hsplit x).1 hm).elim hnp hxv) (by omega) fun q hq1 _ => hmax q hq1
    rcases Nat.lt_or_ge (s.sn x) (s.sn v) with hvx | hvx
    · have := h.own p (hsub p hp2) x hx (fun hm => by
        rcases (hsplit x).1 hm with h3 | h3
        · exact hnp h3
        · rw [h3] at hvx; omega) hlt2 fun q hq1 hq3 => by
          rcases (hsplit q).1 hq1 with h3 | h3
          · exact hq2 q h3 hq3
          · rw [h3] at hq3; omega
      split
      · rename_i e; subst e; omega
      · exact this
    · obtain ⟨h1, h2⟩ := base hvx
      rw [if_pos h1]; omega
  · intro x hx
    rw [e5] at hx
    obtain ⟨p, h3, h4⟩ := h.anc x hx
    rcases (hsplit p).1 h3 with h5 | h5
    · exact ⟨p, by rw [e4]; exact h5, by rw [sn', sn']; exact h4⟩
    · rw [h5] at h4
      exact ⟨t, by rw [e4]; simp, by rw [sn', sn']; omega⟩
theorem TJ.root {g : List (List Int)} {sh : List Bool} {s : Sr} (h : TJ g sh noP s) {v : Nat} (hp : s.path = [v]) : s.lw v = s.sn v := by
  obtain ⟨hvp, hvh, _⟩ := h.last (ps := []) (v := v) hp
  obtain ⟨a, u, b, c, _⟩ := h.low v hvh
  obtain ⟨p, h1, h2⟩ := h.anc u b
  rw [hp] at h1
  rw [List.mem_singleton.1 h1] at h2
  omega
end Go.Am
end
section
namespace Go.Am
set_option linter.unusedSimpArgs false
def sumR (n : Nat) (f : Nat → Nat) : Nat := ((List.range n).map f).sum
theorem sumR_succ (n : Nat) (f : Nat → Nat) : sumR (n + 1) f = sumR n f + f n := by simp [sumR, List.range_succ]
theorem sumR_congr (n : Nat) {f f' : Nat → Nat} (h : ∀ x, x < n → f' x = f x) : sumR n f' = sumR n f := by
  induction n with
  | zero => rfl
  | succ n ih => rw [sumR_succ, sumR_succ, ih (fun x hx => h x (by omega)), h n (by omega)]
theorem sumR_upd {n v d : Nat} {f f' : Nat → Nat} (hv : v < n) (h : ∀ x, x ≠ v → f' x = f x) (h1 : f' v + d = f v) : sumR n f' + d = sumR n f := by
  induction n with
  | zero => omega
  | succ n ih =>
    rw [sumR_succ, sumR_succ]
    by_cases e : v = n
    · subst e
      rw [sumR_congr v (f := f) (f' := f') (fun x hx => h x (by omega))]; omega
    · have := ih (by omega)
      rw [h n (Ne.symm e)]; omega
def remE (g : List (List Int)) (s : Sr) : Nat := sumR g.length fun v => (g.getD v []).length - s.ad v
def unS (g : List (List Int)) (s : Sr) : Nat := sumR g.length fun v => if s.sn v = 0 then 1 else 0
def FM (g : List (List Int)) (s : Sr) : Nat := remE g s + 2 * unS g s + s.path.length
theorem remE_step {g : List (List Int)} {s s' : Sr} {v : Nat} (hv : v < g.length) (hk : s.ad v < (g.getD v []).length) (h : ∀ x, s'.ad x = if x = v then s.ad v + 1 else s.ad x) : remE g s' + 1 = remE g s := by
  unfold remE
  refine sumR_upd hv (fun x hx => by rw [h, if_neg hx]) ?_
  rw [h, if_pos rfl]; omega
theorem remE_same {g : List (List Int)} {s s' : Sr} (h : s'.at_ = s.at_) : remE g s' = remE g s := by unfold remE Sr.ad; rw [h]
theorem unS_same {g : List (List Int)} {s s' : Sr} (h : s'.seen = s.seen) : unS g s' = unS g s := by unfold unS Sr.sn; rw [h]
theorem unS_enter {g : List (List Int)} {s : Sr} {v : Nat} (hv : v < g.length) (hl : s.seen.length = g.length) (h0 : s.sn v = 0) : unS g (s.enter v) + 1 = unS g s := by
  have sn' : ∀ w, (s.enter v).sn w = if w = v then s.count + 1 else s.sn w := fun w => getD_setx _ _ _ _ _ (by rw [hl]; exact hv)
  unfold unS
  refine sumR_upd hv (fun x hx => by rw [sn', if_neg hx]) ?_
  rw [sn', if_pos rfl, h0]; simp
theorem unS_le (g : List (List Int)) (s : Sr) : unS g s ≤ g.length := by
  unfold unS
  generalize g.length = n
  induction n with
  | zero => exact Nat.le_refl _
  | succ n ih => rw [sumR_succ]; split <;> omega
end Go.Am
end
section
namespace Go.Am
open Go Go.Proofs
set_option maxRecDepth 100000
set_option linter.unusedVariables false
set_option linter.unusedSimpArgs false
def nI (l : List Nat) : List Int := List.map (fun n : Nat => (n : Int)) l
theorem nI_len (l : List Nat) : (nI l).length = l.length := by simp [nI]
theorem nI_get (l : List Nat) (i : Nat) : (nI l).getD i 0 = ((l.getD i 0 : Nat) : Int) := by
  by_cases h : i < l.length <;> simp [nI, List.getD, h]
theorem nI_set (l : List Nat) (i x : Nat) : (nI l).set i (x : Int) = nI (l.set i x) := by simp [nI, List.map_set]
theorem nI_snoc (l : List Nat) (x : Nat) : nI l ++ [(x : Int)] = nI (l ++ [x]) := by simp [nI]
theorem nI_take (l : List Nat) (k : Nat) : (nI l).take k = nI (l.take k) := by simp [nI, List.map_take]
theorem nI_drop (l : List Nat) (k : Nat) : (nI l).drop k = nI (l.drop k) := by simp [nI, List.map_drop]
theorem nI_mem (l : List Nat) (x : Nat) : (x : Int) ∈ nI l ↔ x ∈ l := by
  simp only [nI, List.mem_map]
  constructor
  · rintro ⟨y, hy, e⟩; have : y = x := by omega
    rwa [this] at hy
  · exact fun h => ⟨x, h, rfl⟩
attribute [go_sem] nI_len nI_set nI_snoc
theorem sIndex_at (l : List Int) (i : Nat) (hi : i < l.length) (hl : l.length ≤ 10000000) (hn : ∀ j, j < i → l.getD j 0 ≠ l.getD i 0) : sIndex_v l (l.getD i 0) = some (i : Int) := by
  have hl2 := loopO_thru (step := sIndex_L1 l (l.getD i 0)) i (fun k => (k : Int)) (Sum.inr (i : Int))
    (fun k hk => by
      have hkl : k < l.length := by omega
      rw [sIndex_L1_eq, lt_c hkl, cond_true, idxO_at l k 0 hkl, Option.bind_some, decide_eq_false (fun e => hn k hk e.symm), cond_false, wrap_sm (by omega)])
    (by rw [sIndex_L1_eq, lt_c hi, cond_true, idxO_at l i 0 hi, Option.bind_some, decide_eq_true rfl, cond_true])
  unfold sIndex_v
  rw [show (0 : Int) = ((0 : Nat) : Int) from rfl] at *
  rw [hl2]
  rfl
theorem sMin_at (l : List Int) (h1 : 1 ≤ l.length) (hl : l.length ≤ 10000000) : ∃ m, sMin_v l = some m ∧ m ∈ l ∧ ∀ x ∈ l, m ≤ x := by
  have key : ∀ d k, k + d = l.length → 1 ≤ k → ∀ m, m ∈ l.take k → (∀ x ∈ l.take k, m ≤ x) → ∃ m' j, loopO (sMin_L1 l) (m, (k : Int)) = some (m', j) ∧ m' ∈ l ∧ ∀ x ∈ l, m' ≤ x := by
    intro d
    induction d with
    | zero =>
      intro k hk _ m hm hx
      obtain rfl : k = l.length := by omega
      rw [List.take_length] at hm hx
      exact ⟨m, _, by rw [loopO_step, sMin_L1_eq, lt_n, cond_false]; rfl, hm, hx⟩
    | succ d ih =>
      intro k hk hk1 m hm hx
      have hkl : k < l.length := by omega
      rw [loopO_step, sMin_L1_eq, lt_c hkl, cond_true, idxO_at l k 0 hkl, Option.bind_some, Option.bind_some, nextO_inl, wrap_sm (by omega)]
      refine ih (k + 1) (by omega) (by omega) _ ?_ ?_
      · rw [take_snoc l k 0 hkl, List.mem_append]
        split
        · exact .inr (by simp)
        · exact .inl hm
      · intro x hx2
        rw [take_snoc l k 0 hkl, List.mem_append] at hx2
        rcases hx2 with h2 | h2
        · have := hx x h2; split <;> omega
        · rw [List.mem_singleton.1 h2]; split <;> omega
  unfold sMin_v
  rw [decide_eq_false (by omega), cond_false, show idxO l 0 = some (l.getD 0 0) from idxO_at l 0 0 (by omega), Option.bind_some]
  obtain ⟨m', j, h2, h3, h4⟩ := key (l.length - 1) 1 (by omega) (by omega) (l.getD 0 0) (by
      rw [take_snoc l 0 0 (by omega)]; simp) (by rw [take_snoc l 0 0 (by omega)]; simp)
  exact ⟨m', by rw [show ((1 : Int)) = ((1 : Nat) : Int) from rfl, h2, Option.bind_some], h3, h4⟩
def Sr.bx (g : List (List Int)) (sh : List Bool) (s : Sr) (P : List Nat) (pk : Nat) : List D := [.p (.sl (encG g)), .p (.sl (encT sh)), .ref 1000001 0 s.seen.length s.seen.length, .ref 1000002 0 s.low.length s.low.length, .ref 1000003 0 s.at_.length s.at_.length,
  .ref 1000004 0 pk P.length, .ref 1000005 0 s.held.length s.held.length, .p (.int .i64 (s.count : Nat)), .ref 1000006 0 s.names.length s.names.length]
def setAll (l : List Int) (ws : List Nat) (x : Int) : List Int := ws.foldl (fun l w => l.set w x) l
theorem setAll_len (ws : List Nat) (l : List Int) (x : Int) : (setAll l ws x).length = l.length := by
  induction ws generalizing l with
  | nil => rfl
  | cons w r ih => simp only [setAll, List.foldl_cons] at ih ⊢; rw [ih]; simp
attribute [go_sem] setAll_len
theorem setAll_snoc (l : List Int) (ws : List Nat) (w : Nat) (x : Int) : setAll l (ws ++ [w]) x = (setAll l ws x).set w x := by simp [setAll, List.foldl_append]
theorem complete_ok (g : List (List Int)) (sh : List Bool) (s : Sr) (P : List Nat) (pk i : Nat) (hi : i < s.held.length) (hl : s.held.length ≤ 1000) (hn : ∀ j, j < i → s.held.getD j 0 ≠ s.held.getD i 0) (hr : ∀ w ∈ s.held, w < s.names.length) :
    ACalls Try.prog 73 [.ptr 1000000 0, .p (.int .i64 (s.held.getD i 0 : Nat))]
      [(1000000, .box (s.bx g sh P pk)), (1000001, .arr 3 1 (encI (nI s.seen))), (1000002, .arr 3 1 (encI (nI s.low))), (1000003, .arr 3 1 (encI (nI s.at_))), (1000004, .arr 3 1 (encI (nI P))), (1000005, .arr 3 1 (encI (nI s.held))), (1000006, .arr 3 1 (encI s.names))]
      fun h r => ∃ m, (m ∈ nI (s.held.drop i) ∧ ∀ x ∈ nI (s.held.drop i), m ≤ x) ∧ h = [(1000000, .box [.p (.sl (encG g)), .p (.sl (encT sh)), .ref 1000001 0 s.seen.length s.seen.length, .ref 1000002 0 s.low.length s.low.length, .ref 1000003 0 s.at_.length s.at_.length,
        .ref 1000004 0 pk P.length, .ref 1000005 0 i s.held.length, .p (.int .i64 (s.count : Nat)), .ref 1000006 0 s.names.length s.names.length]),
        (1000001, .arr 3 1 (encI (nI s.seen))), (1000002, .arr 3 1 (encI (nI s.low))), (1000003, .arr 3 1 (encI (nI s.at_))), (1000004, .arr 3 1 (encI (nI P))), (1000005, .arr 3 1 (encI (nI s.held))), (1000006, .arr 3 1 (encI (setAll s.names (s.held.drop i) m)))] ∧ r = .tup [] := by
  refine ACalls_X Try.func73 rfl enters73 (by simp [Try.f73]) ?_
  unfold Sr.bx
  have e1 := sIndex_at (nI s.held) i (by rw [nI_len]; exact hi) (by rw [nI_len]; omega) (fun j hj => by rw [nI_get, nI_get]; have := hn j hj; omega)
  rw [nI_get] at e1
  obtain ⟨m, e2, hm1, hm2⟩ := sMin_at (nI (s.held.drop i)) (by rw [nI_len]; simp; omega) (by rw [nI_len]; simp; omega)
  simp only [go_sem]
  refine Cc_bor rfl rfl (sIndex_vok _ _ _ e1) (by simp [BorL, Bor, ev, get, nI_len, encI, List.take_of_length_le]) ?_
  rintro h' r ⟨rfl, rfl⟩
  refine ⟨rfl, rfl, ?_⟩
  simp only [go_sem]
  have f1 : (0 : Int) ≤ (i : Int) ∧ (i : Int) ≤ (s.held.length : Int) := by omega
  have f2 : ((s.held.length : Int) - (i : Int)).toNat = s.held.length - i := by omega
  simp only [go_sem, f1, Int.toNat_natCast, Int.le_refl, f2]
  refine Cc_bor rfl rfl (sMin_vok _ _ e2) ?_ ?_
  · simp [BorL, Bor, ev, get, nI_len, encI, nI_drop, List.take_of_length_le]
    simp [nI, List.map_drop]
  rintro h' r ⟨rfl, rfl⟩
  refine ⟨rfl, rfl, ?_⟩
  simp only [go_sem, f1, Int.toNat_natCast, Int.le_refl, f2]
  refine X_loop_inv (fun k => ⟨[(0, .ptr 1000000 0), (4, .p (.int .i64 (i : Nat))), (5, .p (.int .i64 m)), (26, .ref 1000005 i (s.held.length - i) s.held.length), (27, .p (.int .i64 ((s.held.length - i : Nat) : Int))), (28, .p (.int .i64 (k : Nat)))],
      [(1000000, .box (s.bx g sh P pk)), (1000001, .arr 3 1 (encI (nI s.seen))), (1000002, .arr 3 1 (encI (nI s.low))), (1000003, .arr 3 1 (encI (nI s.at_))), (1000004, .arr 3 1 (encI (nI P))), (1000005, .arr 3 1 (encI (nI s.held))),
       (1000006, .arr 3 1 (encI (setAll s.names ((s.held.drop i).take k) m)))], 49⟩) (fun k => k ≤ s.held.length - i) (fun k => s.held.length - i - k) 0 (Nat.zero_le _)
    ((Wk.forget (by simp [Le, LeE, LeH, get, envIds, hpIds, KeepH, D.ids, idsL, AO.ids, setL, base, Sr.bx, setAll]))) ?_
  rintro k n hk ih
  unfold Sr.bx
  cases c1 : decide ((k : Int) < ((s.held.length - i : Nat) : Int))
  · have f3 : ((i : Int) - 0).toNat = i := by omega
    obtain rfl : k = s.held.length - i := by have := of_decide_eq_false c1; omega
    simp only [go_sem, c1, f1, f3]
    refine end_own ?_
    have f4 : (s.held.drop i).take (s.held.length - i) = s.held.drop i := List.take_of_length_le (by simp)
    simp only [go_sem, c1, f1, f3, f4]
    exact ⟨m, ⟨hm1, hm2⟩, rfl⟩
  · have hk2 : k < s.held.length - i := by simpa using of_decide_eq_true c1
    have f4 : (0 : Int) ≤ (k : Int) ∧ (k : Int) < ((s.held.length - i : Nat) : Int) := by omega
    have g1 := encI_get (nI s.held) (i + k) (by rw [nI_len]; omega)
    rw [nI_get] at g1
    have hw := hr _ (getD_mem s.held (i + k) 0 (by omega))
    have f5 : (0 : Int) ≤ ((s.held.getD (i + k) 0 : Nat) : Int) ∧ ((s.held.getD (i + k) 0 : Nat) : Int) < (s.names.length : Int) := by omega
    have f6 : IntKind.i64.wrap ((k : Int) + 1) = ((k + 1 : Nat) : Int) := wrap_sm (by omega)
    have g2 := encI_get (setAll s.names ((s.held.drop i).take k) m) (s.held.getD (i + k) 0) (by rw [setAll_len]; exact hw)
    simp only [go_sem, c1, f4, g1, g2, f5, Int.toNat_natCast, f6]
    refine ih (k + 1) _ (by omega) (by omega) ?_
    have hd : (s.held.drop i).take (k + 1) = (s.held.drop i).take k ++ [s.held.getD (i + k) 0] := by
      rw [take_snoc (s.held.drop i) k 0 (by simp; omega)]
      simp [List.getD]
    rw [hd, setAll_snoc]
    exact (Wk.forget (by simp [Le, LeE, LeH, get, envIds, hpIds, KeepH, D.ids, idsL, AO.ids, setL, base, Sr.bx, encI_set]))
end Go.Am
end
section
namespace Go.Am
open Go Go.Proofs
set_option maxRecDepth 100000
set_option linter.unusedVariables false
set_option maxHeartbeats 2000000
set_option linter.unusedSimpArgs false
structure FB where
  lab : Nat
  s : Sr
  v : Nat
  p1 : Nat
  p2 : Nat
def FB.st (g : List (List Int)) (sh : List Bool) (b : FB) : St := ⟨[(0, .ptr 1000000 0), (1, .p (.int .i64 (b.v : Nat)))], [
  (1000000, .box [.p (.sl (encG g)), .p (.sl (encT sh)), .ref 1000001 0 b.s.seen.length b.s.seen.length, .ref 1000002 0 b.s.low.length b.s.low.length, .ref 1000003 0 b.s.at_.length b.s.at_.length, .ref 500005 0 b.s.path.length b.s.path.length, .ref 500006 0 b.s.held.length b.s.held.length, .p (.int .i64 (b.s.count : Nat)), .ref 1000006 0 b.s.names.length b.s.names.length]), (1000001, .arr 3 1 (encI (nI b.s.seen))), (1000002, .arr 3 1 (encI (nI b.s.low))), (1000003, .arr 3 1 (encI (nI b.s.at_))), (1000004, .sem (stale 1 b.p1)), (1000005, .sem (stale 1 b.p2)), (1000006, .arr 3 1 (encI b.s.names))
  , (500005, .arr 3 1 (encI (nI b.s.path))), (500006, .arr 3 1 (encI (nI b.s.held)))], 210⟩
theorem cutN (P : List Nat) (k : Nat) : (encI (nI P)).take k = encI (nI (P.take k)) := by rw [encI_take2, nI_take]
theorem cutN2 (P : List Nat) (k : Nat) (h : k ≤ P.length) : (encI (nI (P.take k))).take k = encI (nI (P.take k)) := List.take_of_length_le (by rw [encI_len, nI_len]; simp; omega)
theorem cutW (g : List (List Int)) (sh : List Bool) (p1 p2 lab : Nat) (se lo ad P H : List Nat) (pk hk cn : Nat) (nm : List Int) (v : Nat) (hpk : pk ≤ P.length) (hhk : hk ≤ H.length) :
    Wk ⟨[(0, .ptr 1000000 0), (1, .p (.int .i64 (v : Nat)))], [
      (1000000, .box [.p (.sl (encG g)), .p (.sl (encT sh)), .ref 1000001 0 se.length se.length, .ref 1000002 0 lo.length lo.length, .ref 1000003 0 ad.length ad.length, .ref 500005 0 pk P.length, .ref 500006 0 hk H.length, .p (.int .i64 (cn : Nat)), .ref 1000006 0 nm.length nm.length]), (1000001, .arr 3 1 (encI (nI se))), (1000002, .arr 3 1 (encI (nI lo))), (1000003, .arr 3 1 (encI (nI ad))), (1000004, .sem (stale 1 p1)), (1000005, .sem (stale 1 p2)), (1000006, .arr 3 1 (encI nm))
      , (500005, .arr 3 1 (encI (nI P))), (500006, .arr 3 1 (encI (nI H)))], 210⟩ (FB.st g sh ⟨lab, ⟨se, lo, ad, P.take pk, H.take hk, cn, nm⟩, v, p1, p2⟩) := by
  have l1 : (P.take pk).length = pk := by simp; omega
  have l2 : (H.take hk).length = hk := by simp; omega
  refine (Wk.moveBox (id := 1000000) (j := 5) (q := 500005) (k := pk) (es := encI (nI P)) 600005 rfl (by simp [nI_len, encI_len]) rfl (by rw [encI_len, nI_len]; exact hpk) rfl).trans ?_
  refine (Wk.forget (st1 := ⟨[(0, .ptr 1000000 0), (1, .p (.int .i64 (v : Nat)))], [
      (1000000, .box [.p (.sl (encG g)), .p (.sl (encT sh)), .ref 1000001 0 se.length se.length, .ref 1000002 0 lo.length lo.length, .ref 1000003 0 ad.length ad.length, .ref 600005 0 (P.take pk).length (P.take pk).length, .ref 500006 0 hk H.length, .p (.int .i64 (cn : Nat)), .ref 1000006 0 nm.length nm.length]), (1000001, .arr 3 1 (encI (nI se))), (1000002, .arr 3 1 (encI (nI lo))), (1000003, .arr 3 1 (encI (nI ad))), (1000004, .sem (stale 1 p1)), (1000005, .sem (stale 1 p2)), (1000006, .arr 3 1 (encI nm))
      , (600005, .arr 3 1 (encI (nI (P.take pk)))), (500006, .arr 3 1 (encI (nI H)))], 210⟩) (by simp [Le, LeE, LeH, get, envIds, hpIds, KeepH, D.ids, idsL, AO.ids, setL, base, cutN, l1, l2])).trans ?_
  refine (Wk.moveBox (id := 1000000) (j := 5) (q := 600005) (k := pk) (es := encI (nI (P.take pk))) 500005 rfl (by simp [nI_len, encI_len, l1]) rfl (by rw [encI_len, nI_len, l1]; exact Nat.le_refl _) rfl).trans ?_
  refine (Wk.moveBox (id := 1000000) (j := 6) (q := 500006) (k := hk) (es := encI (nI H)) 600006 rfl (by simp [nI_len, encI_len]) rfl (by rw [encI_len, nI_len]; exact hhk) rfl).trans ?_
  refine (Wk.forget (st1 := ⟨[(0, .ptr 1000000 0), (1, .p (.int .i64 (v : Nat)))], [
      (1000000, .box [.p (.sl (encG g)), .p (.sl (encT sh)), .ref 1000001 0 se.length se.length, .ref 1000002 0 lo.length lo.length, .ref 1000003 0 ad.length ad.length, .ref 500005 0 (P.take pk).length (P.take pk).length, .ref 600006 0 (H.take hk).length (H.take hk).length, .p (.int .i64 (cn : Nat)), .ref 1000006 0 nm.length nm.length]), (1000001, .arr 3 1 (encI (nI se))), (1000002, .arr 3 1 (encI (nI lo))), (1000003, .arr 3 1 (encI (nI ad))), (1000004, .sem (stale 1 p1)), (1000005, .sem (stale 1 p2)), (1000006, .arr 3 1 (encI nm))
      , (500005, .arr 3 1 (encI (nI (P.take pk)))), (600006, .arr 3 1 (encI (nI (H.take hk))))], 210⟩) (by simp [Le, LeE, LeH, get, envIds, hpIds, KeepH, D.ids, idsL, AO.ids, setL, base, cutN, cutN2 P pk hpk, l1, l2])).trans ?_
  refine (Wk.moveBox (id := 1000000) (j := 6) (q := 600006) (k := hk) (es := encI (nI (H.take hk))) 500006 rfl (by simp [nI_len, encI_len, l2]) rfl (by rw [encI_len, nI_len, l2]; exact Nat.le_refl _) rfl).trans ?_
  exact (Wk.forget (by simp [Le, LeE, LeH, get, envIds, hpIds, KeepH, D.ids, idsL, AO.ids, setL, base, FB.st, cutN, cutN2 P pk hpk, cutN2 H hk hhk, l1, l2]))
theorem cutE (g : List (List Int)) (sh : List Bool) (_p1 _p2 lab : Nat) (se lo ad P H : List Nat) (pk hk cn : Nat) (nm : List Int) (v : Nat) (hpk : pk ≤ P.length) (hhk : hk ≤ H.length) :
    Wk ⟨[(0, .ptr 1000000 0), (1, .p (.int .i64 (v : Nat)))], [
      (1000000, .box [.p (.sl (encG g)), .p (.sl (encT sh)), .ref 1000001 0 se.length se.length, .ref 1000002 0 lo.length lo.length, .ref 1000003 0 ad.length ad.length, .ref 1000004 0 pk P.length, .ref 1000005 0 hk H.length, .p (.int .i64 (cn : Nat)), .ref 1000006 0 nm.length nm.length]), (1000001, .arr 3 1 (encI (nI se))), (1000002, .arr 3 1 (encI (nI lo))), (1000003, .arr 3 1 (encI (nI ad))), (1000004, .arr 3 1 (encI (nI P))), (1000005, .arr 3 1 (encI (nI H))), (1000006, .arr 3 1 (encI nm))
      ], 210⟩ (FB.st g sh ⟨lab, ⟨se, lo, ad, P.take pk, H.take hk, cn, nm⟩, v, P.length + 1, H.length + 1⟩) := by
  have l1 : (P.take pk).length = pk := by simp; omega
  have l2 : (H.take hk).length = hk := by simp; omega
  refine (Wk.moveBox (id := 1000000) (j := 5) (q := 1000004) (k := pk) (es := encI (nI P)) 500005 rfl (by simp [nI_len, encI_len]) rfl (by rw [encI_len, nI_len]; exact hpk) rfl).trans ?_
  refine (Wk.moveBox (id := 1000000) (j := 6) (q := 1000005) (k := hk) (es := encI (nI H)) 500006 rfl (by simp [nI_len, encI_len]) rfl (by rw [encI_len, nI_len]; exact hhk) rfl).trans ?_
  exact (Wk.forget (by simp [Le, LeE, LeH, get, envIds, hpIds, KeepH, D.ids, idsL, AO.ids, setL, base, FB.st, cutN, l1, l2, nI_len, encI_len]))
end Go.Am
end
section
namespace Go.Am
open Go Go.Proofs
set_option maxRecDepth 100000
set_option linter.unusedVariables false
set_option maxHeartbeats 2000000
set_option linter.unusedSimpArgs false
structure FI (g : List (List Int)) (sh : List Bool) (s0 : Sr) (v0 : Nat) (b : FB) : Prop where
  tj : TJ g sh (if b.lab = 0 then fun w => w = b.v else noP) b.s
  cu : b.s.count + unS g b.s = g.length
  mo : ∀ x, s0.sn x ≠ 0 → b.s.sn x ≠ 0
  v0 : b.s.sn v0 ≠ 0
  at0 : b.lab = 0 → b.v < g.length ∧ sh.getD b.v false = false ∧ b.s.sn b.v = 0 ∧ ∀ p ∈ b.s.path, Rch g sh p b.v
  at1 : b.lab ≠ 0 → b.lab = 1 ∧ ∃ ps, b.s.path = ps ++ [b.v]
  pl : b.s.path.length + unS g b.s ≤ g.length
  hl : b.s.held.length + unS g b.s ≤ g.length
theorem TJ.pend {g : List (List Int)} {sh : List Bool} {s : Sr} (h : TJ g sh noP s) (p : Nat → Prop) : TJ g sh p s :=
  ⟨h.l1, h.l2, h.l3, h.l4, h.rng, h.cnt, h.inj, h.opn, h.at0, h.atl, h.hld, h.hso, h.pth, h.pso, h.nms, h.nmc, h.fin, fun x hx k hk w hw ho => ⟨fun e => ((h.edg x hx k hk w hw ho).1 e).elim, (h.edg x hx k hk w hw ho).2⟩, h.low, h.rch, h.own, h.anc, h.nmx⟩
def Sr.inc (s : Sr) (v : Nat) : Sr := { s with at_ := s.at_.set v (s.ad v + 1) }
def Sr.lo1 (s : Sr) (v L : Nat) : Sr := { s with low := s.low.set v L }
theorem inc_ad {s : Sr} {v : Nat} (hv : v < s.at_.length) (x : Nat) : (s.inc v).ad x = if x = v then s.ad v + 1 else s.ad x := getD_setx _ _ _ _ _ hv
theorem lo1_lw {s : Sr} {v L : Nat} (hv : v < s.low.length) (x : Nat) : (s.lo1 v L).lw x = if x = v then L else s.lw x := getD_setx _ _ _ _ _ hv
section
variable {g : List (List Int)} {sh : List Bool} {s0 s : Sr} {v0 v w p1 p2 : Nat}
theorem FI.inc1 (h : FI g sh s0 v0 ⟨1, s, v, p1, p2⟩) (hk : s.ad v < (g.getD v []).length) (hw : (g.getD v []).getD (s.ad v) 0 = (w : Int)) (hq : sh.getD w false = false → s.sn w ≠ 0 ∧ w ∉ s.held) (q1 q2 : Nat) :
    FI g sh s0 v0 ⟨1, s.inc v, v, q1, q2⟩ ∧ FM g (s.inc v) < FM g s := by
  obtain ⟨tj, cu, mo, v0', _, at1, pl, hl⟩ := h
  simp only at pl hl
  obtain ⟨_, ps, hp⟩ := at1 (show (1 : Nat) ≠ 0 by decide)
  replace tj : TJ g sh noP s := tj
  replace hp : s.path = ps ++ [v] := hp
  obtain ⟨hvp, hvh, hvn, _⟩ := tj.last hp
  have e3 := inc_ad (s := s) (v := v) (by rw [tj.l3]; exact hvn)
  have h1 : TJ g sh noP (s.inc v) := tj.step (L := s.lw v) hp hk hw rfl (fun x => by show s.lw x = _; split <;> simp_all) rfl e3 (by simp [Sr.inc]) rfl rfl rfl rfl (Nat.le_refl _) (tj.low v hvh).2
    fun ho => ⟨fun e => absurd e (hq ho).1, fun hm => absurd hm (hq ho).2⟩
  have h2 := remE_step (g := g) (s := s) (s' := s.inc v) hvn hk e3
  have h3 : unS g (s.inc v) = unS g s := unS_same rfl
  refine ⟨⟨h1, by show s.count + _ = _; rw [h3]; exact cu, mo, v0', fun h => absurd h (show (1 : Nat) ≠ 0 by decide), fun _ => ⟨rfl, ps, hp⟩, by rw [h3]; exact pl, by rw [h3]; exact hl⟩, ?_⟩
  unfold FM; rw [h3]; show _ + _ + s.path.length < _; omega
theorem FI.inc0 (h : FI g sh s0 v0 ⟨1, s, v, p1, p2⟩) (hk : s.ad v < (g.getD v []).length) (hw : (g.getD v []).getD (s.ad v) 0 = (w : Int)) (hwn : w < g.length) (ho : sh.getD w false = false) (hs : s.sn w = 0) (q1 q2 : Nat) :
    FI g sh s0 v0 ⟨0, s.inc v, w, q1, q2⟩ ∧ FM g (s.inc v) < FM g s := by
  obtain ⟨tj, cu, mo, v0', _, at1, pl, hl⟩ := h
  simp only at pl hl
  obtain ⟨_, ps, hp⟩ := at1 (show (1 : Nat) ≠ 0 by decide)
  replace tj : TJ g sh noP s := tj
  replace hp : s.path = ps ++ [v] := hp
  obtain ⟨hvp, hvh, hvn, _⟩ := tj.last hp
  have e3 := inc_ad (s := s) (v := v) (by rw [tj.l3]; exact hvn)
  have hwh : w ∉ s.held := fun hm => ((tj.hld w).1 hm).1 hs
  have h1 : TJ g sh (fun x => x = w) (s.inc v) := tj.step (L := s.lw v) hp hk hw rfl (fun x => by show s.lw x = _; split <;> simp_all) rfl e3 (by simp [Sr.inc]) rfl rfl rfl rfl (Nat.le_refl _) (tj.low v hvh).2
    fun _ => ⟨fun _ => rfl, fun hm => absurd hm hwh⟩
  have h2 := remE_step (g := g) (s := s) (s' := s.inc v) hvn hk e3
  have h3 : unS g (s.inc v) = unS g s := unS_same rfl
  have he : Ed g sh v w := ⟨by rw [← hw, getD_eq hk]; exact List.getElem_mem hk, ho⟩
  refine ⟨⟨h1, by show s.count + _ = _; rw [h3]; exact cu, mo, v0', fun _ => ⟨hwn, ho, hs, fun p hp2 => ?_⟩, fun h => absurd rfl h, by rw [h3]; exact pl, by rw [h3]; exact hl⟩, ?_⟩
  · exact (tj.rch p hp2 v hvh ((tj.last hp).2.2.2.2.1 p hp2)).tail he
  · unfold FM; rw [h3]; show _ + _ + s.path.length < _; omega
theorem FI.incl (h : FI g sh s0 v0 ⟨1, s, v, p1, p2⟩) (hk : s.ad v < (g.getD v []).length) (hw : (g.getD v []).getD (s.ad v) 0 = (w : Int)) (ho : sh.getD w false = false) (hs : s.sn w ≠ 0) (hn : s.nm w < 0) (q1 q2 : Nat) :
    FI g sh s0 v0 ⟨1, (s.inc v).lo1 v (min (s.lw v) (s.sn w)), v, q1, q2⟩ ∧ FM g ((s.inc v).lo1 v (min (s.lw v) (s.sn w))) < FM g s := by
  obtain ⟨tj, cu, mo, v0', _, at1, pl, hl⟩ := h
  simp only at pl hl
  obtain ⟨_, ps, hp⟩ := at1 (show (1 : Nat) ≠ 0 by decide)
  replace tj : TJ g sh noP s := tj
  replace hp : s.path = ps ++ [v] := hp
  obtain ⟨hvp, hvh, hvn, _⟩ := tj.last hp
  have e3 := inc_ad (s := s) (v := v) (by rw [tj.l3]; exact hvn)
  have hwh : w ∈ s.held := (tj.hld w).2 ⟨hs, hn⟩
  have he : Ed g sh v w := ⟨by rw [← hw, getD_eq hk]; exact List.getElem_mem hk, ho⟩
  obtain ⟨_, u, hu1, hu2, hu3⟩ := tj.low v hvh
  have h1 : TJ g sh noP ((s.inc v).lo1 v (min (s.lw v) (s.sn w))) := tj.step (L := min (s.lw v) (s.sn w)) hp hk hw rfl (fun x => lo1_lw (s := s.inc v) (by show v < s.low.length; rw [tj.l2]; exact hvn) x) (by simp [Sr.lo1, Sr.inc]) e3 (by simp [Sr.inc, Sr.lo1]) rfl rfl rfl rfl (Nat.min_le_left _ _)
    (by
      rcases Nat.le_total (s.lw v) (s.sn w) with h4 | h4
      · exact ⟨u, hu1, by rw [Nat.min_eq_left h4]; exact hu2, hu3⟩
      · exact ⟨w, hwh, by rw [Nat.min_eq_right h4], (Rch.refl v).tail he⟩)
    fun _ => ⟨fun e => absurd e hs, fun _ => Nat.min_le_right _ _⟩
  have h2 := remE_step (g := g) (s := s) (s' := (s.inc v).lo1 v (min (s.lw v) (s.sn w))) hvn hk e3
  have h3 : unS g ((s.inc v).lo1 v (min (s.lw v) (s.sn w))) = unS g s := unS_same rfl
  refine ⟨⟨h1, by show s.count + _ = _; rw [h3]; exact cu, mo, v0', fun h => absurd h (show (1 : Nat) ≠ 0 by decide), fun _ => ⟨rfl, ps, hp⟩, by rw [h3]; exact pl, by rw [h3]; exact hl⟩, ?_⟩
  unfold FM; rw [h3]; show _ + _ + s.path.length < _; omega
theorem setAll_get (ws : List Nat) (m : Int) : ∀ (l : List Int) (x : Nat) (d : Int), (∀ w ∈ ws, w < l.length) → (setAll l ws m).getD x d = if x ∈ ws then m else l.getD x d := by
  induction ws with
  | nil => intro l x d _; simp [setAll]
  | cons w r ih =>
    intro l x d h
    have := ih (l.set w m) x d (fun y hy => by rw [List.length_set]; exact h y (by simp [hy]))
    simp only [setAll, List.foldl_cons] at this ⊢
    rw [this, getD_setx _ _ _ _ _ (h w (by simp))]
    by_cases h1 : x ∈ r
    · simp [h1]
    · by_cases h2 : x = w
      · simp [h1, h2]
      · simp [h1, h2]
theorem held_at (tj : TJ g sh noP s) {i : Nat} (hi : i < s.held.length) (hv : s.held.getD i 0 = v) : (∀ x, x ∈ s.held.take i ↔ x ∈ s.held ∧ s.sn x < s.sn v) ∧ (∀ x, x ∈ s.held.drop i ↔ x ∈ s.held ∧ s.sn v ≤ s.sn x) ∧ ∀ j, j < i → s.held.getD j 0 ≠ s.held.getD i 0 := by
  have hso := List.pairwise_iff_getElem.1 tj.hso
  have hv2 : s.held[i] = v := by rw [← hv, getD_eq hi]
  have lt : ∀ a b (ha : a < s.held.length) (hb : b < s.held.length), a < b → s.sn s.held[a] < s.sn s.held[b] := fun a b ha hb hab => hso a b ha hb hab
  refine ⟨fun x => ⟨fun hx => ?_, fun ⟨h1, h2⟩ => ?_⟩, fun x => ⟨fun hx => ?_, fun ⟨h1, h2⟩ => ?_⟩, fun j hj e => ?_⟩
  · obtain ⟨k, hk, rfl⟩ := List.mem_iff_getElem.1 hx
    rw [List.getElem_take]
    have hk2 : k < i := by simp at hk; omega
    exact ⟨List.getElem_mem _, by rw [← hv2]; exact lt k i (by omega) hi hk2⟩
  · obtain ⟨k, hk, rfl⟩ := List.mem_iff_getElem.1 h1
    rcases Nat.lt_or_ge k i with h3 | h3
    · exact List.mem_iff_getElem.2 ⟨k, by simp; omega, by rw [List.getElem_take]⟩
    · rcases Nat.eq_or_lt_of_le h3 with h4 | h4
      · subst h4; rw [hv2] at h2; omega
      · have := lt i k hi hk h4; rw [hv2] at this; omega
  · obtain ⟨k, hk, rfl⟩ := List.mem_iff_getElem.1 hx
    rw [List.getElem_drop]
    have hk2 : i + k < s.held.length := by simp at hk; omega
    refine ⟨List.getElem_mem _, ?_⟩
    rcases Nat.eq_zero_or_pos k with h4 | h4
    · subst h4; simp only [Nat.add_zero]; rw [hv2]; exact Nat.le_refl _
    · have := lt i (i + k) hi hk2 (by omega); rw [hv2] at this; omega
  · obtain ⟨k, hk, rfl⟩ := List.mem_iff_getElem.1 h1
    rcases Nat.lt_or_ge k i with h3 | h3
    · have := lt k i hk hi h3; rw [hv2] at this; omega
    · exact List.mem_iff_getElem.2 ⟨k - i, by simp; omega, by rw [List.getElem_drop]; congr 1; omega⟩
  · rw [getD_eq (show j < s.held.length by omega), getD_eq hi] at e
    have := lt j i (by omega) hi hj
    rw [e] at this; omega
def Sr.popB (s : Sr) (ps : List Nat) (t L : Nat) : Sr := { s with path := ps, low := s.low.set t L }
def Sr.popC (s : Sr) (ps : List Nat) (i : Nat) (m : Int) : Sr := { s with path := ps, held := s.held.take i, names := setAll s.names (s.held.drop i) m }
theorem TJ.popC (tj : TJ g sh noP s) {ps : List Nat} (hp : s.path = ps ++ [v]) (ha : s.ad v = (g.getD v []).length) (hl : s.lw v = s.sn v) {i : Nat} (hi : i < s.held.length) (hv : s.held.getD i 0 = v) {m : Int} (hm : m ∈ nI (s.held.drop i)) (hmin : ∀ x ∈ nI (s.held.drop i), m ≤ x) :
    TJ g sh noP (s.popC ps i m) := by
  obtain ⟨a1, a2, _⟩ := held_at tj hi hv
  obtain ⟨y0, hy0, rfl⟩ : ∃ y0 : Nat, y0 ∈ s.held.drop i ∧ m = (y0 : Int) := by
    simp only [nI, List.mem_map] at hm; obtain ⟨y, h1, h2⟩ := hm; exact ⟨y, h1, h2.symm⟩
  refine tj.complete (s' := s.popC ps i (y0 : Int)) hp ha hl ((a2 y0).1 hy0) (fun z hz1 hz2 => ?_) rfl rfl rfl rfl a1 (tj.hso.sublist (List.take_sublist _ _)) rfl (fun x => ?_) (by simp [Sr.popC, setAll_len])
  · have := hmin (z : Int) ((nI_mem _ z).2 ((a2 z).2 ⟨hz1, hz2⟩)); omega
  · have h1 := setAll_get (s.held.drop i) (y0 : Int) s.names x (-1) (fun w hw => by rw [tj.l4]; exact (tj.opn w ((tj.hld w).1 ((a2 w).1 hw).1).1).1)
    show (setAll s.names (s.held.drop i) (y0 : Int)).getD x (-1) = _
    rw [h1]
    by_cases h2 : x ∈ s.held.drop i
    · rw [if_pos h2, if_pos ((a2 x).1 h2)]
    · rw [if_neg h2, if_neg (fun h => h2 ((a2 x).2 h))]; rfl
theorem FI.back (h : FI g sh s0 v0 ⟨1, s, v, p1, p2⟩) {ps : List Nat} {t : Nat} (hp : s.path = ps ++ [t] ++ [v]) (ha : s.ad v = (g.getD v []).length) (hl : s.lw v ≠ s.sn v) (q1 q2 : Nat) :
    FI g sh s0 v0 ⟨1, s.popB (ps ++ [t]) t (min (s.lw t) (s.lw v)), t, q1, q2⟩ ∧ FM g (s.popB (ps ++ [t]) t (min (s.lw t) (s.lw v))) < FM g s := by
  obtain ⟨tj, cu, mo, v0', _, at1, pl, hhl⟩ := h
  simp only at pl hhl
  replace tj : TJ g sh noP s := tj
  have htp : t ∈ s.path := by rw [hp]; simp
  have htn := (tj.opn t ((tj.hld t).1 (tj.pth t htp)).1).1
  have h1 : TJ g sh noP (s.popB (ps ++ [t]) t (min (s.lw t) (s.lw v))) := tj.back hp ha hl rfl (fun x => getD_setx _ _ _ _ _ (by rw [tj.l2]; exact htn)) (by simp [Sr.popB]) rfl rfl rfl rfl rfl
  have h2 : remE g (s.popB (ps ++ [t]) t (min (s.lw t) (s.lw v))) = remE g s := remE_same rfl
  have h3 : unS g (s.popB (ps ++ [t]) t (min (s.lw t) (s.lw v))) = unS g s := unS_same rfl
  have h4 : s.path.length = (ps ++ [t]).length + 1 := by rw [hp]; simp
  refine ⟨⟨h1, by show s.count + _ = _; rw [h3]; exact cu, mo, v0', fun h => absurd h (show (1 : Nat) ≠ 0 by decide), fun _ => ⟨rfl, ps, rfl⟩, by rw [h3]; show (ps ++ [t]).length + _ ≤ _; omega, by rw [h3]; exact hhl⟩, ?_⟩
  unfold FM; rw [h2, h3]; show _ + _ + (ps ++ [t]).length < _; omega
theorem FI.comp (h : FI g sh s0 v0 ⟨1, s, v, p1, p2⟩) {ps : List Nat} {t : Nat} (hp : s.path = ps ++ [t] ++ [v]) (ha : s.ad v = (g.getD v []).length) (hl : s.lw v = s.sn v) {i : Nat} (hi : i < s.held.length) (hv : s.held.getD i 0 = v) {m : Int} (hm : m ∈ nI (s.held.drop i)) (hmin : ∀ x ∈ nI (s.held.drop i), m ≤ x) (q1 q2 : Nat) :
    FI g sh s0 v0 ⟨1, s.popC (ps ++ [t]) i m, t, q1, q2⟩ ∧ FM g (s.popC (ps ++ [t]) i m) < FM g s ∧ min (s.lw t) (s.lw v) = s.lw t := by
  obtain ⟨tj, cu, mo, v0', _, at1, pl, hhl⟩ := h
  simp only at pl hhl
  replace tj : TJ g sh noP s := tj
  have h1 := tj.popC hp ha hl hi hv hm hmin
  have htp : t ∈ s.path := by rw [hp]; simp
  have hlt := (tj.last hp).2.2.2.2.2.1 t (by simp)
  have hlo := (tj.low t (tj.pth t htp)).1
  have h2 : remE g (s.popC (ps ++ [t]) i m) = remE g s := remE_same rfl
  have h3 : unS g (s.popC (ps ++ [t]) i m) = unS g s := unS_same rfl
  have h4 : s.path.length = (ps ++ [t]).length + 1 := by rw [hp]; simp
  have h5 : (s.held.take i).length ≤ s.held.length := by simp; omega
  refine ⟨⟨h1, by show s.count + _ = _; rw [h3]; exact cu, mo, v0', fun h => absurd h (show (1 : Nat) ≠ 0 by decide), fun _ => ⟨rfl, ps, rfl⟩, by rw [h3]; show (ps ++ [t]).length + _ ≤ _; omega, by rw [h3]; show (s.held.take i).length + _ ≤ _; omega⟩, ?_, by omega⟩
  unfold FM; rw [h2, h3]; show _ + _ + (ps ++ [t]).length < _; omega
theorem enter_FM (hv : v < g.length) (hl : s.seen.length = g.length) (h0 : s.sn v = 0) : FM g (s.enter v) < FM g s ∧ (s.enter v).count + unS g (s.enter v) = s.count + unS g s ∧ unS g (s.enter v) + 1 = unS g s := by
  have h1 := unS_enter hv hl h0
  have h2 : remE g (s.enter v) = remE g s := remE_same rfl
  have h3 : (s.enter v).path.length = s.path.length + 1 := by simp [Sr.enter]
  have h4 : (s.enter v).count = s.count + 1 := rfl
  refine ⟨?_, by omega, h1⟩
  unfold FM; omega
theorem FI.enter (tj : TJ g sh (fun w => w = v) s) (cu : s.count + unS g s = g.length) (mo : ∀ x, s0.sn x ≠ 0 → s.sn x ≠ 0) (hv0 : v0 = v ∨ s.sn v0 ≠ 0) (hv : v < g.length) (ho : sh.getD v false = false) (h0 : s.sn v = 0) (hp : ∀ p ∈ s.path, Rch g sh p v)
    (pl : s.path.length + unS g s ≤ g.length) (hhl : s.held.length + unS g s ≤ g.length) (q1 q2 : Nat) : FI g sh s0 v0 ⟨1, s.enter v, v, q1, q2⟩ := by
  obtain ⟨_, h2, h3⟩ := enter_FM hv tj.l1 h0
  have sn' : ∀ w, (s.enter v).sn w = if w = v then s.count + 1 else s.sn w := fun w => getD_setx _ _ _ _ _ (by rw [tj.l1]; exact hv)
  refine ⟨tj.enter hv ho h0 hp, by show (s.enter v).count + unS g (s.enter v) = g.length; omega, fun x hx => ?_, ?_, fun h => absurd h (show (1 : Nat) ≠ 0 by decide), fun _ => ⟨rfl, s.path, rfl⟩, ?_, ?_⟩
  · show (s.enter v).sn x ≠ 0
    rw [sn']; split
    · omega
    · exact mo x hx
  · show (s.enter v).sn v0 ≠ 0
    rw [sn']; split
    · omega
    · rcases hv0 with h | h
      · contradiction
      · exact h
  · show (s.enter v).path.length + _ ≤ _
    simp only [Sr.enter, List.length_append, List.length_cons, List.length_nil] at h3 ⊢; omega
  · show (s.enter v).held.length + _ ≤ _
    simp only [Sr.enter, List.length_append, List.length_cons, List.length_nil] at h3 ⊢; omega
end
def frOut (g : List (List Int)) (sh : List Bool) (s0 : Sr) (v0 : Nat) (h : Hp) : Prop := ∃ (s : Sr) (P H : List Nat), TJ g sh noP s ∧ s.path = [] ∧ s.held = [] ∧ s.count + unS g s = g.length ∧ (∀ x, s0.sn x ≠ 0 → s.sn x ≠ 0) ∧ s.sn v0 ≠ 0 ∧
  (h = [(1000000, .box [.p (.sl (encG g)), .p (.sl (encT sh)), .ref 1000001 0 g.length g.length, .ref 1000002 0 g.length g.length, .ref 1000003 0 g.length g.length, .ref 1000004 0 0 P.length, .ref 1000005 0 0 H.length, .p (.int .i64 (s.count : Nat)), .ref 1000006 0 g.length g.length]), (1000001, .arr 3 1 (encI (nI s.seen))), (1000002, .arr 3 1 (encI (nI s.low))), (1000003, .arr 3 1 (encI (nI s.at_))),
    (1000004, .arr 3 1 (encI (nI P))), (1000005, .arr 3 1 (encI (nI H))), (1000006, .arr 3 1 (encI s.names))] ∨
   ∃ p1 p2, h = [(1000000, .box [.p (.sl (encG g)), .p (.sl (encT sh)), .ref 1000001 0 g.length g.length, .ref 1000002 0 g.length g.length, .ref 1000003 0 g.length g.length, .ref 0 0 0 P.length, .ref 1 0 0 H.length, .p (.int .i64 (s.count : Nat)), .ref 1000006 0 g.length g.length]), (1000001, .arr 3 1 (encI (nI s.seen))), (1000002, .arr 3 1 (encI (nI s.low))), (1000003, .arr 3 1 (encI (nI s.at_))),
    (1000004, .sem (stale 1 p1)), (1000005, .sem (stale 1 p2)), (1000006, .arr 3 1 (encI s.names)), (0, .arr 3 1 (encI (nI P))), (1, .arr 3 1 (encI (nI H)))])
theorem from_ok (g : List (List Int)) (sh : List Bool) (s0 : Sr) (v0 : Nat) (hg : g.length ≤ 24) (hrow : ∀ r ∈ g, r.length ≤ 10000000) (hsh : sh.length = g.length) (hT : TJ g sh noP s0) (hpa : s0.path = []) (hhe : s0.held = []) (hcu : s0.count + unS g s0 = g.length)
    (hv : v0 < g.length) (hvo : sh.getD v0 false = false) (hv0 : s0.sn v0 = 0) :
    ACalls Try.prog 43 [.ptr 1000000 0, .p (.int .i64 (v0 : Nat))]
      [(1000000, .box (s0.bx g sh s0.path s0.path.length)), (1000001, .arr 3 1 (encI (nI s0.seen))), (1000002, .arr 3 1 (encI (nI s0.low))), (1000003, .arr 3 1 (encI (nI s0.at_))), (1000004, .arr 3 1 (encI (nI s0.path))), (1000005, .arr 3 1 (encI (nI s0.held))), (1000006, .arr 3 1 (encI s0.names))]
      fun h r => frOut g sh s0 v0 h ∧ r = .tup [] := by
  refine ACalls_X Try.func43 rfl enters43 (by simp [Try.f43]) ?_
  unfold Sr.bx
  simp only [go_sem]
  refine X_scope_inv FB.lab (FB.st g sh) (FI g sh s0 v0) (fun b => FM g b.s) (FM g s0) ?_ ?_
  · intro n ih
    obtain ⟨s, rfl⟩ : ∃ s, s = s0 := ⟨s0, rfl⟩
    obtain ⟨v, rfl⟩ : ∃ v, v = v0 := ⟨v0, rfl⟩
    have tj := hT.pend (fun w => w = v)
    have cu := hcu
    have hvn := hv
    have hvo2 := hvo
    have hvz := hv0
    have hpv : ∀ p ∈ s.path, Rch g sh p v := by rw [hpa]; intro p hp; cases hp
    have pl : s.path.length + unS g s ≤ g.length := by rw [hpa]; have := unS_le g s; simpa using this
    have hhl : s.held.length + unS g s ≤ g.length := by rw [hhe]; have := unS_le g s; simpa using this
    have l1 := tj.l1
    have l2 := tj.l2
    have hlt := (enter_FM hvn tj.l1 hvz).1
    have hI1 : FI g sh s v ⟨1, s.enter v, v, 0, 0⟩ := FI.enter tj cu (fun _ h => h) (.inl rfl) hvn hvo2 hvz hpv pl hhl 0 0
    have i1 : (0 : Int) ≤ (v : Int) ∧ (v : Int) < (g.length : Int) := by omega
    have hwc : IntKind.i64.wrap ((s.count : Int) + 1) = ((s.count + 1 : Nat) : Int) := wrap_sm (by omega)
    have gn0 : (encI (nI s.seen)).getD v [] = [.int .i64 (s.sn v : Nat)] := by rw [encI_get (nI s.seen) v (by rw [nI_len]; omega), nI_get]; rfl
    have gl0 : (encI (nI s.low)).getD v [] = [.int .i64 (s.lw v : Nat)] := by rw [encI_get (nI s.low) v (by rw [nI_len]; omega), nI_get]; rfl
    have i1s : (0 : Int) ≤ (v : Int) ∧ (v : Int) < (s.seen.length : Int) := by omega
    have i1l : (0 : Int) ≤ (v : Int) ∧ (v : Int) < (s.low.length : Int) := by omega
    have hpb : s.path.length + 1 ≤ 24 ∧ s.held.length + 1 ≤ 24 := by have := (enter_FM (g := g) hvn l1 hvz).2.2; omega
    simp only [go_sem, hwc]
    refine X_any0 mixed (p := [(0, 0), (1, 0), (2, 0), (3, 0), (4, 0), (5, 0), (6, 0), (7, 0), (8, 0), (9, 0), (10, 0), (11, 0), (12, 0), (13, 0), (14, 0), (15, 0), (16, 0), (17, 0), (18, 0), (19, 4), (20, 4), (21, 4)]) (by kernel_rfl) (by simp [LeH, get]) ?_
    simp only [go_sem, hwc, Int.toNat_natCast, i1s, i1l, gn0, gl0]
    refine X_any [(1000000, .box [.p (.sl (encG g)), .p (.sl (encT sh)), .ref 1000001 0 s.seen.length s.seen.length, .ref 1000002 0 s.low.length s.low.length, .ref 1000003 0 s.at_.length s.at_.length, .ref 1000004 0 s.path.length s.path.length, .ref 1000005 0 s.held.length s.held.length, .p (.int .i64 ((s.count + 1 : Nat) : Int)), .ref 1000006 0 s.names.length s.names.length])] mixed (p := [(0, 0), (1, 0), (2, 0), (3, 0), (4, 0), (5, 0), (6, 0), (9, 0), (10, 0), (11, 0), (12, 0), (13, 0), (7, 1), (14, 1), (8, 2), (15, 2), (16, 0), (17, 0), (18, 4), (19, 4), (20, 4), (21, 4)]) (by kernel_rfl) (by simp [LeH, get]) ?_
    simp only [go_sem]
    refine ⟨⟨wid1 _ _ rfl, by omega, by omega⟩, ⟨wid1 _ _ rfl, by omega, by omega⟩, ?_⟩
    obtain ⟨s1, hs1⟩ : ∃ s1, s1 = s.enter v := ⟨_, rfl⟩
    have q1 : s.seen.set v (s.count + 1) = s1.seen := by rw [hs1]; rfl
    have q2 : s.low.set v (s.count + 1) = s1.low := by rw [hs1]; rfl
    have q3 : s.at_ = s1.at_ := by rw [hs1]; rfl
    have q4 : s.path ++ [v] = s1.path := by rw [hs1]; rfl
    have q5 : s.held ++ [v] = s1.held := by rw [hs1]; rfl
    have q6 : s.count + 1 = s1.count := by rw [hs1]; rfl
    have q7 : s.names = s1.names := by rw [hs1]; rfl
    have q8 : s.seen.length = s1.seen.length := by rw [hs1]; simp [Sr.enter]
    have q9 : s.low.length = s1.low.length := by rw [hs1]; simp [Sr.enter]
    have q10 : s.path.length + 1 = s1.path.length := by rw [hs1]; simp [Sr.enter]
    have q11 : s.held.length + 1 = s1.held.length := by rw [hs1]; simp [Sr.enter]
    simp only [q1, q2]
    simp only [q3, q4, q5, q6, q7, q8, q9, q10, q11]
    rw [← hs1] at hI1 hlt
    have hI0 := hI1
    obtain ⟨tj, cu, mo, v0', _, at1, pl, hhl⟩ := hI1
    simp only at cu mo v0' pl hhl
    replace tj : TJ g sh noP s1 := tj
    obtain ⟨_, ps, hp⟩ := at1 (show (1 : Nat) ≠ 0 by decide)
    replace hp : s1.path = ps ++ [v] := hp
    obtain ⟨hvp, hvh, hvn, hvo2, hmax, hps, hvps⟩ := tj.last hp
    have l1 := tj.l1
    have l2 := tj.l2
    have l3 := tj.l3
    have l4 := tj.l4
    have i1 : (0 : Int) ≤ (v : Int) ∧ (v : Int) < (g.length : Int) := by omega
    have ga : (encI (nI s1.at_)).getD v [] = [.int .i64 (s1.ad v : Nat)] := by rw [encI_get (nI s1.at_) v (by rw [nI_len]; omega), nI_get]; rfl
    have gg := encG_get g v hvn
    refine X_any0 mixed (p := [(0, 0), (1, 0), (2, 0), (3, 0), (4, 0), (5, 0), (6, 0), (7, 0), (8, 0), (9, 0), (10, 0), (11, 0), (12, 0), (13, 0), (14, 0), (15, 0)]) (by kernel_rfl) (by simp [LeH, get]) ?_
    simp only [go_sem, Int.toNat_natCast, l1, l2, l3, l4, i1, ga, gg]
    cases c1 : decide ((s1.ad v : Int) < ((g.getD v []).length : Int))
    · simp only [go_sem, c1]
      refine X_any0 mixed (p := [(0, 0), (1, 0), (2, 0), (3, 0), (4, 0), (5, 0), (6, 0), (7, 0), (8, 0), (9, 0), (10, 0), (11, 0), (12, 0), (13, 0), (14, 3)]) (by kernel_rfl) (by simp [LeH, get]) ?_
      have hpl : s1.path.length = ps.length + 1 := by rw [hp]; simp
      have hw1 : IntKind.i64.wrap ((s1.path.length : Int) - 1) = ((ps.length : Nat) : Int) := by rw [hpl, wrap_i64_id (by omega) (by omega)]; omega
      have hw2 : (0 : Int) ≤ ((ps.length : Nat) : Int) ∧ ((ps.length : Nat) : Int) ≤ (s1.path.length : Int) := by omega
      have hw3 : (((ps.length : Nat) : Int) - 0).toNat = ps.length := by omega
      have gl : (encI (nI s1.low)).getD v [] = [.int .i64 (s1.lw v : Nat)] := by rw [encI_get (nI s1.low) v (by rw [nI_len]; omega), nI_get]; rfl
      have gnv : (encI (nI s1.seen)).getD v [] = [.int .i64 (s1.sn v : Nat)] := by rw [encI_get (nI s1.seen) v (by rw [nI_len]; omega), nI_get]; rfl
      simp only [go_sem, Int.toNat_natCast, l1, l2, l3, l4, hw1, hw2, hw3]
      refine X_any0 mixed (p := [(0, 0), (1, 0), (2, 0), (3, 0), (4, 0), (5, 0), (6, 0), (7, 0), (8, 0), (9, 0), (10, 0), (11, 0), (12, 0), (13, 0), (14, 0)]) (by kernel_rfl) (by simp [LeH, get]) ?_
      simp only [go_sem, Int.toNat_natCast, l1, l2, l3, l4, i1, gl, gnv]
      have hal : s1.ad v = (g.getD v []).length := by have := of_decide_eq_false c1; have := tj.atl v; omega
      rcases List.eq_nil_or_concat ps with rfl | ⟨ps', t, hps'⟩
      · have hlr := tj.root (v := v) (by simpa using hp)
        have c5 : decide ((s1.lw v : Int) = (s1.sn v : Int)) = true := decide_eq_true (by omega)
        obtain ⟨i, hi, hiv⟩ := List.mem_iff_getElem.1 hvh
        rw [← getD_eq (x := 0) hi] at hiv
        have hc := complete_ok g sh s1 s1.path 0 i hi (by omega) (held_at tj hi hiv).2.2 (fun w hw => by rw [l4]; exact (tj.opn w ((tj.hld w).1 hw).1).1)
        simp only [Sr.bx, l1, l2, l3, l4, hiv] at hc
        simp only [go_sem, c5]
        refine Cc_of hc ?_
        rintro h' r ⟨m, ⟨hm1, hm2⟩, rfl, rfl⟩
        have hT' := tj.popC (ps := []) hp hal hlr hi hiv hm1 hm2
        have hi0 : i = 0 := by
          rcases Nat.eq_zero_or_pos i with h | h
          · exact h
          · obtain ⟨p, h3, _⟩ := hT'.anc (s1.held.getD 0 0) (by show _ ∈ s1.held.take i; rw [getD_eq (show 0 < s1.held.length by omega)]; exact List.mem_iff_getElem.2 ⟨0, by simp; omega, by rw [List.getElem_take]⟩)
            cases h3
        subst hi0
        simp only [go_sem]
        refine end_own ?_
        simp only [go_sem]
        exact ⟨s1.popC [] 0 m, s1.path, s1.held, hT', rfl, by simp [Sr.popC], by show s1.count + _ = _; rw [unS_same (s' := s1.popC [] 0 m) (s := s1) rfl]; exact cu, mo, v0', .inl rfl⟩
      · obtain rfl : ps = ps' ++ [t] := by rw [hps', List.concat_eq_append]
        have htp : t ∈ s1.path := by rw [hp]; simp
        have htn := (tj.opn t ((tj.hld t).1 (tj.pth t htp)).1).1
        have c6 : decide ((0 : Int) < (((ps' ++ [t]).length : Nat) : Int)) = true := decide_eq_true (by simp)
        have hw4 : IntKind.i64.wrap ((((ps' ++ [t]).length : Nat) : Int) - 1) = ((ps'.length : Nat) : Int) := by rw [wrap_i64_id (by omega) (by omega)]; simp
        have i5 : (0 : Int) ≤ ((ps'.length : Nat) : Int) ∧ ((ps'.length : Nat) : Int) < (((ps' ++ [t]).length : Nat) : Int) := by simp; omega
        have gp : (encI (nI s1.path)).getD ps'.length [] = [.int .i64 (t : Nat)] := by
          rw [encI_get (nI s1.path) ps'.length (by rw [nI_len, hp]; simp), nI_get, hp]; simp [List.getD]
        have i6 : (0 : Int) ≤ (t : Int) ∧ (t : Int) < (g.length : Int) := by omega
        have gt : (encI (nI s1.low)).getD t [] = [.int .i64 (s1.lw t : Nat)] := by rw [encI_get (nI s1.low) t (by rw [nI_len]; omega), nI_get]; rfl
        have hmn2 : (if (s1.lw v : Int) < (s1.lw t : Int) then (s1.lw v : Int) else (s1.lw t : Int)) = ((min (s1.lw t) (s1.lw v) : Nat) : Int) := by split <;> omega
        have hcp : s1.path.take (ps' ++ [t]).length = ps' ++ [t] := by rw [hp, List.take_left' rfl]
        cases c5 : decide ((s1.lw v : Int) = (s1.sn v : Int))
        · have hne : s1.lw v ≠ s1.sn v := by have := of_decide_eq_false c5; omega
          simp only [go_sem, c5]
          simp only [go_sem, c6]
          refine X_any0 mixed (p := [(0, 0), (1, 0), (2, 0), (3, 0), (4, 0), (5, 0), (6, 0), (7, 0), (8, 0), (9, 0), (10, 0), (11, 0), (12, 0), (13, 0), (14, 0)]) (by kernel_rfl) (by simp [LeH, get]) ?_
          simp only [go_sem, Int.toNat_natCast, hw4, i5, gp]
          refine X_any0 mixed (p := [(0, 0), (1, 0), (2, 0), (3, 0), (4, 0), (5, 0), (6, 0), (7, 0), (8, 0), (9, 0), (10, 0), (11, 0), (12, 0), (13, 0), (14, 0), (15, 0), (16, 0), (17, 0), (18, 0), (19, 0), (20, 0), (21, 3)]) (by kernel_rfl) (by simp [LeH, get]) ?_
          simp only [go_sem, Int.toNat_natCast, l1, l2, l3, l4, i6, i1, gt, gl, hmn2]
          obtain ⟨k1, k2⟩ := FI.back hI0 hp hal hne (s1.path.length + 1) (s1.held.length + 1)
          refine ih ⟨1, s1.popB (ps' ++ [t]) t (min (s1.lw t) (s1.lw v)), t, (s1.path.length + 1), (s1.held.length + 1)⟩ _ k1 (Nat.lt_trans k2 hlt) ?_
          have e : (⟨s1.seen, s1.low.set t (min (s1.lw t) (s1.lw v)), s1.at_, s1.path.take (ps' ++ [t]).length, s1.held.take s1.held.length, s1.count, s1.names⟩ : Sr) = s1.popB (ps' ++ [t]) t (min (s1.lw t) (s1.lw v)) := by rw [hcp, List.take_length]; rfl
          rw [← e]
          refine Wk.trans ?_ (cutE g sh 0 0 1 s1.seen (s1.low.set t (min (s1.lw t) (s1.lw v))) s1.at_ s1.path s1.held (ps' ++ [t]).length s1.held.length s1.count s1.names t (by omega) (Nat.le_refl _))
          exact (Wk.forget (by simp [Le, LeE, LeH, get, envIds, hpIds, KeepH, D.ids, idsL, AO.ids, setL, base, nI_len, encI_set, l1, l2, l3, l4]))
        · have hlr : s1.lw v = s1.sn v := by have := of_decide_eq_true c5; omega
          obtain ⟨i, hi, hiv⟩ := List.mem_iff_getElem.1 hvh
          rw [← getD_eq (x := 0) hi] at hiv
          have hc := complete_ok g sh s1 s1.path (ps' ++ [t]).length i hi (by omega) (held_at tj hi hiv).2.2 (fun w hw => by rw [l4]; exact (tj.opn w ((tj.hld w).1 hw).1).1)
          simp only [Sr.bx, l1, l2, l3, l4, hiv] at hc
          simp only [go_sem, c5]
          refine Cc_of hc ?_
          rintro h' r ⟨m, ⟨hm1, hm2⟩, rfl, rfl⟩
          obtain ⟨k1, k2, k3⟩ := FI.comp hI0 hp hal hlr hi hiv hm1 hm2 (s1.path.length + 1) (s1.held.length + 1)
          rw [k3] at hmn2
          have hls : s1.low.set t (s1.lw t) = s1.low := by
            apply List.ext_getElem (by simp)
            intro j h1 h2
            rw [List.getElem_set]
            split
            · rename_i e; subst e; exact getD_eq h2
            · rfl
          simp only [go_sem]
          simp only [go_sem, c6]
          refine X_any0 mixed (p := [(0, 0), (1, 0), (2, 0), (3, 0), (4, 0), (5, 0), (6, 0), (7, 0), (8, 0), (9, 0), (10, 0), (11, 0), (12, 0), (13, 0), (14, 0)]) (by kernel_rfl) (by simp [LeH, get]) ?_
          simp only [go_sem, Int.toNat_natCast, hw4, i5, gp]
          refine X_any0 mixed (p := [(0, 0), (1, 0), (2, 0), (3, 0), (4, 0), (5, 0), (6, 0), (7, 0), (8, 0), (9, 0), (10, 0), (11, 0), (12, 0), (13, 0), (14, 0), (15, 0), (16, 0), (17, 0), (18, 0), (19, 0), (20, 0), (21, 3)]) (by kernel_rfl) (by simp [LeH, get]) ?_
          simp only [go_sem, Int.toNat_natCast, l1, l2, l3, l4, i6, i1, gt, gl, hmn2, hls]
          refine ih ⟨1, s1.popC (ps' ++ [t]) i m, t, (s1.path.length + 1), (s1.held.length + 1)⟩ _ k1 (Nat.lt_trans k2 hlt) ?_
          have e : (⟨s1.seen, s1.low, s1.at_, s1.path.take (ps' ++ [t]).length, s1.held.take i, s1.count, setAll s1.names (s1.held.drop i) m⟩ : Sr) = s1.popC (ps' ++ [t]) i m := by rw [hcp]; rfl
          rw [← e]
          refine Wk.trans ?_ (cutE g sh 0 0 1 s1.seen s1.low s1.at_ s1.path s1.held (ps' ++ [t]).length i s1.count (setAll s1.names (s1.held.drop i) m) t (by omega) (by omega))
          exact (Wk.forget (by simp [Le, LeE, LeH, get, envIds, hpIds, KeepH, D.ids, idsL, AO.ids, setL, base, nI_len, encI_set, l1, l2, l3, l4, setAll_len, hls]))
    · have hk : s1.ad v < (g.getD v []).length := by have := of_decide_eq_true c1; omega
      obtain ⟨w, hw, hwn⟩ := tj.rng v _ hk
      have gw : (encI (g.getD v [])).getD (s1.ad v) [] = [.int .i64 (w : Nat)] := by rw [encI_get _ _ hk, hw]
      have i2 : (0 : Int) ≤ (s1.ad v : Int) ∧ (s1.ad v : Int) < ((g.getD v []).length : Int) := by omega
      have i3 : (0 : Int) ≤ (w : Int) ∧ (w : Int) < (g.length : Int) := by omega
      have hrl : (g.getD v []).length ≤ 10000000 := hrow _ (by rw [gde hvn]; exact List.getElem_mem hvn)
      have hwr : IntKind.i64.wrap ((s1.ad v : Int) + 1) = ((s1.ad v + 1 : Nat) : Int) := wrap_sm (by omega)
      have gs : (encT sh).getD w [] = [.bool (sh.getD w false)] := encT_get sh w (by omega)
      have gn : (encI (nI s1.seen)).getD w [] = [.int .i64 (s1.sn w : Nat)] := by rw [encI_get (nI s1.seen) w (by rw [nI_len]; omega), nI_get]; rfl
      have gnm : (encI s1.names).getD w [] = [.int .i64 (s1.nm w)] := by rw [encI_get s1.names w (by omega)]; simp [Sr.nm, List.getD, show w < s1.names.length by omega]
      simp only [go_sem, c1]
      refine X_any0 mixed (p := [(0, 0), (1, 0), (2, 0), (3, 0), (4, 0), (5, 0), (6, 0), (7, 0), (8, 0), (9, 0), (10, 0), (11, 0), (12, 0), (13, 0), (14, 0), (15, 0), (16, 0)]) (by kernel_rfl) (by simp [LeH, get]) ?_
      simp only [go_sem, Int.toNat_natCast, l1, l2, l3, l4, i1, ga, gg, i2, gw, i3, hwr, gs, hsh]
      cases c2 : sh.getD w false
      rotate_left
      · simp only [go_sem, c2]
        obtain ⟨k1, k2⟩ := FI.inc1 hI0 hk hw (fun h => by rw [h] at c2; cases c2) (s1.path.length + 1) (s1.held.length + 1)
        refine ih ⟨1, s1.inc v, v, (s1.path.length + 1), (s1.held.length + 1)⟩ _ k1 (Nat.lt_trans k2 hlt) ?_
        rw [show s1.inc v = (⟨s1.seen, s1.low, s1.at_.set v (s1.ad v + 1), s1.path.take s1.path.length, s1.held.take s1.held.length, s1.count, s1.names⟩ : Sr) by rw [List.take_length, List.take_length]; rfl]
        refine Wk.trans ?_ (cutE g sh 0 0 1 s1.seen s1.low (s1.at_.set v (s1.ad v + 1)) s1.path s1.held s1.path.length s1.held.length s1.count s1.names v (Nat.le_refl _) (Nat.le_refl _))
        exact (Wk.forget (by simp [Le, LeE, LeH, get, envIds, hpIds, KeepH, D.ids, idsL, AO.ids, setL, base, nI_len, encI_set, l1, l2, l3, l4]))
      · simp only [go_sem, c2]
        simp only [go_sem, c2, Int.toNat_natCast, l1, i3, gn]
        cases c3 : decide ((s1.sn w : Int) = 0)
        rotate_left
        · simp only [go_sem, c3]
          obtain ⟨k1, k2⟩ := FI.inc0 hI0 hk hw hwn c2 (by have := of_decide_eq_true c3; omega) (s1.path.length + 1) (s1.held.length + 1)
          refine ih ⟨0, s1.inc v, w, (s1.path.length + 1), (s1.held.length + 1)⟩ _ k1 (Nat.lt_trans k2 hlt) ?_
          rw [show s1.inc v = (⟨s1.seen, s1.low, s1.at_.set v (s1.ad v + 1), s1.path.take s1.path.length, s1.held.take s1.held.length, s1.count, s1.names⟩ : Sr) by rw [List.take_length, List.take_length]; rfl]
          refine Wk.trans ?_ (cutE g sh 0 0 0 s1.seen s1.low (s1.at_.set v (s1.ad v + 1)) s1.path s1.held s1.path.length s1.held.length s1.count s1.names w (Nat.le_refl _) (Nat.le_refl _))
          exact (Wk.forget (by simp [Le, LeE, LeH, get, envIds, hpIds, KeepH, D.ids, idsL, AO.ids, setL, base, nI_len, encI_set, l1, l2, l3, l4]))
        have h3 : s1.sn w ≠ 0 := by have := of_decide_eq_false c3; omega
        simp only [go_sem, c3]
        simp only [go_sem, c3, Int.toNat_natCast, l4, i3, gnm]
        cases c4 : decide (s1.nm w < 0)
        · simp only [go_sem, c4]
          obtain ⟨k1, k2⟩ := FI.inc1 hI0 hk hw (fun _ => ⟨h3, fun hm => by have := ((tj.hld w).1 hm).2; have := of_decide_eq_false c4; omega⟩) (s1.path.length + 1) (s1.held.length + 1)
          refine ih ⟨1, s1.inc v, v, (s1.path.length + 1), (s1.held.length + 1)⟩ _ k1 (Nat.lt_trans k2 hlt) ?_
          rw [show s1.inc v = (⟨s1.seen, s1.low, s1.at_.set v (s1.ad v + 1), s1.path.take s1.path.length, s1.held.take s1.held.length, s1.count, s1.names⟩ : Sr) by rw [List.take_length, List.take_length]; rfl]
          refine Wk.trans ?_ (cutE g sh 0 0 1 s1.seen s1.low (s1.at_.set v (s1.ad v + 1)) s1.path s1.held s1.path.length s1.held.length s1.count s1.names v (Nat.le_refl _) (Nat.le_refl _))
          exact (Wk.forget (by simp [Le, LeE, LeH, get, envIds, hpIds, KeepH, D.ids, idsL, AO.ids, setL, base, nI_len, encI_set, l1, l2, l3, l4]))
        · have h4 := of_decide_eq_true c4
          have gl : (encI (nI s1.low)).getD v [] = [.int .i64 (s1.lw v : Nat)] := by rw [encI_get (nI s1.low) v (by rw [nI_len]; omega), nI_get]; rfl
          simp only [go_sem, c4]
          refine X_any0 mixed (p := [(0, 0), (1, 0), (2, 0), (3, 0), (4, 0), (5, 0), (6, 0), (7, 0), (8, 0), (9, 0), (10, 0), (11, 0), (12, 0), (13, 0), (14, 0), (15, 0), (16, 0), (17, 0), (18, 0), (19, 0), (20, 0), (21, 3)]) (by kernel_rfl) (by simp [LeH, get]) ?_
          have hmn : (if (s1.sn w : Int) < (s1.lw v : Int) then (s1.sn w : Int) else (s1.lw v : Int)) = ((min (s1.lw v) (s1.sn w) : Nat) : Int) := by split <;> omega
          simp only [go_sem, Int.toNat_natCast, l1, l2, l3, l4, i1, i3, gl, gn, hmn]
          obtain ⟨k1, k2⟩ := FI.incl hI0 hk hw c2 h3 h4 (s1.path.length + 1) (s1.held.length + 1)
          refine ih ⟨1, (s1.inc v).lo1 v (min (s1.lw v) (s1.sn w)), v, (s1.path.length + 1), (s1.held.length + 1)⟩ _ k1 (Nat.lt_trans k2 hlt) ?_
          rw [show (s1.inc v).lo1 v (min (s1.lw v) (s1.sn w)) = (⟨s1.seen, s1.low.set v (min (s1.lw v) (s1.sn w)), s1.at_.set v (s1.ad v + 1), s1.path.take s1.path.length, s1.held.take s1.held.length, s1.count, s1.names⟩ : Sr) by rw [List.take_length, List.take_length]; rfl]
          refine Wk.trans ?_ (cutE g sh 0 0 1 s1.seen (s1.low.set v (min (s1.lw v) (s1.sn w))) (s1.at_.set v (s1.ad v + 1)) s1.path s1.held s1.path.length s1.held.length s1.count s1.names v (Nat.le_refl _) (Nat.le_refl _))
          exact (Wk.forget (by simp [Le, LeE, LeH, get, envIds, hpIds, KeepH, D.ids, idsL, AO.ids, setL, base, nI_len, encI_set, l1, l2, l3, l4]))
  · rintro ⟨lab, s, v, p1, p2⟩ n hI ih
    have hI0 := hI
    obtain ⟨tj, cu, mo, v0', at0, at1, pl, hhl⟩ := hI
    simp only at tj cu mo v0' at0 at1 pl hhl
    by_cases hl : lab = 0
    · subst hl
      obtain ⟨hvn, hvo2, hvz, hpv⟩ := at0 rfl
      replace tj : TJ g sh (fun w => w = v) s := tj
      have l1 := tj.l1
      have l2 := tj.l2
      have hlt := (enter_FM hvn tj.l1 hvz).1
      have hI1 : FI g sh s0 v0 ⟨1, s.enter v, v, p1, p2⟩ := FI.enter tj cu mo (.inr v0') hvn hvo2 hvz hpv pl hhl p1 p2
      refine ⟨_, rfl, ?_⟩
      unfold FB.st
      have i1 : (0 : Int) ≤ (v : Int) ∧ (v : Int) < (g.length : Int) := by omega
      have hwc : IntKind.i64.wrap ((s.count : Int) + 1) = ((s.count + 1 : Nat) : Int) := wrap_sm (by omega)
      have gn0 : (encI (nI s.seen)).getD v [] = [.int .i64 (s.sn v : Nat)] := by rw [encI_get (nI s.seen) v (by rw [nI_len]; omega), nI_get]; rfl
      have gl0 : (encI (nI s.low)).getD v [] = [.int .i64 (s.lw v : Nat)] := by rw [encI_get (nI s.low) v (by rw [nI_len]; omega), nI_get]; rfl
      have i1s : (0 : Int) ≤ (v : Int) ∧ (v : Int) < (s.seen.length : Int) := by omega
      have i1l : (0 : Int) ≤ (v : Int) ∧ (v : Int) < (s.low.length : Int) := by omega
      have hpb : s.path.length + 1 ≤ 24 ∧ s.held.length + 1 ≤ 24 := by have := (enter_FM (g := g) hvn l1 hvz).2.2; omega
      simp only [go_sem, hwc]
      refine X_any0 mixed (p := [(0, 0), (1, 0), (2, 0), (3, 0), (4, 0), (5, 0), (6, 0), (7, 0), (8, 0), (9, 0), (10, 0), (11, 0), (12, 0), (13, 0), (14, 0), (15, 0), (16, 0), (17, 0), (18, 0), (19, 4), (20, 4), (21, 4)]) (by kernel_rfl) (by simp [LeH, get]) ?_
      simp only [go_sem, hwc, Int.toNat_natCast, i1s, i1l, gn0, gl0]
      refine X_any [(1000000, .box [.p (.sl (encG g)), .p (.sl (encT sh)), .ref 1000001 0 s.seen.length s.seen.length, .ref 1000002 0 s.low.length s.low.length, .ref 1000003 0 s.at_.length s.at_.length, .ref 500005 0 s.path.length s.path.length, .ref 500006 0 s.held.length s.held.length, .p (.int .i64 ((s.count + 1 : Nat) : Int)), .ref 1000006 0 s.names.length s.names.length])] mixed (p := [(0, 0), (1, 0), (2, 0), (3, 0), (4, 0), (5, 0), (6, 0), (9, 0), (10, 0), (11, 0), (12, 0), (13, 0), (7, 1), (14, 1), (8, 2), (15, 2), (16, 0), (17, 0), (18, 4), (19, 4), (20, 4), (21, 4)]) (by kernel_rfl) (by simp [LeH, get]) ?_
      simp only [go_sem]
      refine ⟨⟨wid1 _ _ rfl, by omega, by omega⟩, ⟨wid1 _ _ rfl, by omega, by omega⟩, ?_⟩
      obtain ⟨s1, hs1⟩ : ∃ s1, s1 = s.enter v := ⟨_, rfl⟩
      have q1 : s.seen.set v (s.count + 1) = s1.seen := by rw [hs1]; rfl
      have q2 : s.low.set v (s.count + 1) = s1.low := by rw [hs1]; rfl
      have q3 : s.at_ = s1.at_ := by rw [hs1]; rfl
      have q4 : s.path ++ [v] = s1.path := by rw [hs1]; rfl
      have q5 : s.held ++ [v] = s1.held := by rw [hs1]; rfl
      have q6 : s.count + 1 = s1.count := by rw [hs1]; rfl
      have q7 : s.names = s1.names := by rw [hs1]; rfl
      have q8 : s.seen.length = s1.seen.length := by rw [hs1]; simp [Sr.enter]
      have q9 : s.low.length = s1.low.length := by rw [hs1]; simp [Sr.enter]
      have q10 : s.path.length + 1 = s1.path.length := by rw [hs1]; simp [Sr.enter]
      have q11 : s.held.length + 1 = s1.held.length := by rw [hs1]; simp [Sr.enter]
      simp only [q1, q2]
      simp only [q3, q4, q5, q6, q7, q8, q9, q10, q11]
      rw [← hs1] at hI1 hlt
      have hI0 := hI1
      obtain ⟨tj, cu, mo, v0', _, at1, pl, hhl⟩ := hI1
      simp only at cu mo v0' pl hhl
      replace tj : TJ g sh noP s1 := tj
      obtain ⟨_, ps, hp⟩ := at1 (show (1 : Nat) ≠ 0 by decide)
      replace hp : s1.path = ps ++ [v] := hp
      obtain ⟨hvp, hvh, hvn, hvo2, hmax, hps, hvps⟩ := tj.last hp
      have l1 := tj.l1
      have l2 := tj.l2
      have l3 := tj.l3
      have l4 := tj.l4
      have i1 : (0 : Int) ≤ (v : Int) ∧ (v : Int) < (g.length : Int) := by omega
      have ga : (encI (nI s1.at_)).getD v [] = [.int .i64 (s1.ad v : Nat)] := by rw [encI_get (nI s1.at_) v (by rw [nI_len]; omega), nI_get]; rfl
      have gg := encG_get g v hvn
      refine X_any0 mixed (p := [(0, 0), (1, 0), (2, 0), (3, 0), (4, 0), (5, 0), (6, 0), (7, 0), (8, 0), (9, 0), (10, 0), (11, 0), (12, 0), (13, 0), (14, 0), (15, 0)]) (by kernel_rfl) (by simp [LeH, get]) ?_
      simp only [go_sem, Int.toNat_natCast, l1, l2, l3, l4, i1, ga, gg]
      cases c1 : decide ((s1.ad v : Int) < ((g.getD v []).length : Int))
      · simp only [go_sem, c1]
        refine X_any0 mixed (p := [(0, 0), (1, 0), (2, 0), (3, 0), (4, 0), (5, 0), (6, 0), (7, 0), (8, 0), (9, 0), (10, 0), (11, 0), (12, 0), (13, 0), (14, 3)]) (by kernel_rfl) (by simp [LeH, get]) ?_
        have hpl : s1.path.length = ps.length + 1 := by rw [hp]; simp
        have hw1 : IntKind.i64.wrap ((s1.path.length : Int) - 1) = ((ps.length : Nat) : Int) := by rw [hpl, wrap_i64_id (by omega) (by omega)]; omega
        have hw2 : (0 : Int) ≤ ((ps.length : Nat) : Int) ∧ ((ps.length : Nat) : Int) ≤ (s1.path.length : Int) := by omega
        have hw3 : (((ps.length : Nat) : Int) - 0).toNat = ps.length := by omega
        have gl : (encI (nI s1.low)).getD v [] = [.int .i64 (s1.lw v : Nat)] := by rw [encI_get (nI s1.low) v (by rw [nI_len]; omega), nI_get]; rfl
        have gnv : (encI (nI s1.seen)).getD v [] = [.int .i64 (s1.sn v : Nat)] := by rw [encI_get (nI s1.seen) v (by rw [nI_len]; omega), nI_get]; rfl
        simp only [go_sem, Int.toNat_natCast, l1, l2, l3, l4, hw1, hw2, hw3]
        refine X_any0 mixed (p := [(0, 0), (1, 0), (2, 0), (3, 0), (4, 0), (5, 0), (6, 0), (7, 0), (8, 0), (9, 0), (10, 0), (11, 0), (12, 0), (13, 0), (14, 0)]) (by kernel_rfl) (by simp [LeH, get]) ?_
        simp only [go_sem, Int.toNat_natCast, l1, l2, l3, l4, i1, gl, gnv]
        have hal : s1.ad v = (g.getD v []).length := by have := of_decide_eq_false c1; have := tj.atl v; omega
        rcases List.eq_nil_or_concat ps with rfl | ⟨ps', t, hps'⟩
        · have hlr := tj.root (v := v) (by simpa using hp)
          have c5 : decide ((s1.lw v : Int) = (s1.sn v : Int)) = true := decide_eq_true (by omega)
          obtain ⟨i, hi, hiv⟩ := List.mem_iff_getElem.1 hvh
          rw [← getD_eq (x := 0) hi] at hiv
          have hc := complete_ok g sh s1 s1.path 0 i hi (by omega) (held_at tj hi hiv).2.2 (fun w hw => by rw [l4]; exact (tj.opn w ((tj.hld w).1 hw).1).1)
          simp only [Sr.bx, l1, l2, l3, l4, hiv] at hc
          simp only [go_sem, c5]
          refine Cc_of hc ?_
          rintro h' r ⟨m, ⟨hm1, hm2⟩, rfl, rfl⟩
          have hT' := tj.popC (ps := []) hp hal hlr hi hiv hm1 hm2
          have hi0 : i = 0 := by
            rcases Nat.eq_zero_or_pos i with h | h
            · exact h
            · obtain ⟨p, h3, _⟩ := hT'.anc (s1.held.getD 0 0) (by show _ ∈ s1.held.take i; rw [getD_eq (show 0 < s1.held.length by omega)]; exact List.mem_iff_getElem.2 ⟨0, by simp; omega, by rw [List.getElem_take]⟩)
              cases h3
          subst hi0
          simp only [go_sem]
          refine end_own ?_
          simp only [go_sem]
          exact ⟨s1.popC [] 0 m, s1.path, s1.held, hT', rfl, by simp [Sr.popC], by show s1.count + _ = _; rw [unS_same (s' := s1.popC [] 0 m) (s := s1) rfl]; exact cu, mo, v0', .inr ⟨p1, p2, rfl⟩⟩
        · obtain rfl : ps = ps' ++ [t] := by rw [hps', List.concat_eq_append]
          have htp : t ∈ s1.path := by rw [hp]; simp
          have htn := (tj.opn t ((tj.hld t).1 (tj.pth t htp)).1).1
          have c6 : decide ((0 : Int) < (((ps' ++ [t]).length : Nat) : Int)) = true := decide_eq_true (by simp)
          have hw4 : IntKind.i64.wrap ((((ps' ++ [t]).length : Nat) : Int) - 1) = ((ps'.length : Nat) : Int) := by rw [wrap_i64_id (by omega) (by omega)]; simp
          have i5 : (0 : Int) ≤ ((ps'.length : Nat) : Int) ∧ ((ps'.length : Nat) : Int) < (((ps' ++ [t]).length : Nat) : Int) := by simp; omega
          have gp : (encI (nI s1.path)).getD ps'.length [] = [.int .i64 (t : Nat)] := by
            rw [encI_get (nI s1.path) ps'.length (by rw [nI_len, hp]; simp), nI_get, hp]; simp [List.getD]
          have i6 : (0 : Int) ≤ (t : Int) ∧ (t : Int) < (g.length : Int) := by omega
          have gt : (encI (nI s1.low)).getD t [] = [.int .i64 (s1.lw t : Nat)] := by rw [encI_get (nI s1.low) t (by rw [nI_len]; omega), nI_get]; rfl
          have hmn2 : (if (s1.lw v : Int) < (s1.lw t : Int) then (s1.lw v : Int) else (s1.lw t : Int)) = ((min (s1.lw t) (s1.lw v) : Nat) : Int) := by split <;> omega
          have hcp : s1.path.take (ps' ++ [t]).length = ps' ++ [t] := by rw [hp, List.take_left' rfl]
          cases c5 : decide ((s1.lw v : Int) = (s1.sn v : Int))
          · have hne : s1.lw v ≠ s1.sn v := by have := of_decide_eq_false c5; omega
            simp only [go_sem, c5]
            simp only [go_sem, c6]
            refine X_any0 mixed (p := [(0, 0), (1, 0), (2, 0), (3, 0), (4, 0), (5, 0), (6, 0), (7, 0), (8, 0), (9, 0), (10, 0), (11, 0), (12, 0), (13, 0), (14, 0)]) (by kernel_rfl) (by simp [LeH, get]) ?_
            simp only [go_sem, Int.toNat_natCast, hw4, i5, gp]
            refine X_any0 mixed (p := [(0, 0), (1, 0), (2, 0), (3, 0), (4, 0), (5, 0), (6, 0), (7, 0), (8, 0), (9, 0), (10, 0), (11, 0), (12, 0), (13, 0), (14, 0), (15, 0), (16, 0), (17, 0), (18, 0), (19, 0), (20, 0), (21, 3)]) (by kernel_rfl) (by simp [LeH, get]) ?_
            simp only [go_sem, Int.toNat_natCast, l1, l2, l3, l4, i6, i1, gt, gl, hmn2]
            obtain ⟨k1, k2⟩ := FI.back hI0 hp hal hne p1 p2
            refine ih ⟨1, s1.popB (ps' ++ [t]) t (min (s1.lw t) (s1.lw v)), t, p1, p2⟩ _ k1 (Nat.lt_trans k2 hlt) ?_
            have e : (⟨s1.seen, s1.low.set t (min (s1.lw t) (s1.lw v)), s1.at_, s1.path.take (ps' ++ [t]).length, s1.held.take s1.held.length, s1.count, s1.names⟩ : Sr) = s1.popB (ps' ++ [t]) t (min (s1.lw t) (s1.lw v)) := by rw [hcp, List.take_length]; rfl
            rw [← e]
            refine Wk.trans ?_ (cutW g sh p1 p2 1 s1.seen (s1.low.set t (min (s1.lw t) (s1.lw v))) s1.at_ s1.path s1.held (ps' ++ [t]).length s1.held.length s1.count s1.names t (by omega) (Nat.le_refl _))
            exact (Wk.forget (by simp [Le, LeE, LeH, get, envIds, hpIds, KeepH, D.ids, idsL, AO.ids, setL, base, nI_len, encI_set, l1, l2, l3, l4]))
          · have hlr : s1.lw v = s1.sn v := by have := of_decide_eq_true c5; omega
            obtain ⟨i, hi, hiv⟩ := List.mem_iff_getElem.1 hvh
            rw [← getD_eq (x := 0) hi] at hiv
            have hc := complete_ok g sh s1 s1.path (ps' ++ [t]).length i hi (by omega) (held_at tj hi hiv).2.2 (fun w hw => by rw [l4]; exact (tj.opn w ((tj.hld w).1 hw).1).1)
            simp only [Sr.bx, l1, l2, l3, l4, hiv] at hc
            simp only [go_sem, c5]
            refine Cc_of hc ?_
            rintro h' r ⟨m, ⟨hm1, hm2⟩, rfl, rfl⟩
            obtain ⟨k1, k2, k3⟩ := FI.comp hI0 hp hal hlr hi hiv hm1 hm2 p1 p2
            rw [k3] at hmn2
            have hls : s1.low.set t (s1.lw t) = s1.low := by
              apply List.ext_getElem (by simp)
              intro j h1 h2
              rw [List.getElem_set]
              split
              · rename_i e; subst e; exact getD_eq h2
              · rfl
            simp only [go_sem]
            simp only [go_sem, c6]
            refine X_any0 mixed (p := [(0, 0), (1, 0), (2, 0), (3, 0), (4, 0), (5, 0), (6, 0), (7, 0), (8, 0), (9, 0), (10, 0), (11, 0), (12, 0), (13, 0), (14, 0)]) (by kernel_rfl) (by simp [LeH, get]) ?_
            simp only [go_sem, Int.toNat_natCast, hw4, i5, gp]
            refine X_any0 mixed (p := [(0, 0), (1, 0), (2, 0), (3, 0), (4, 0), (5, 0), (6, 0), (7, 0), (8, 0), (9, 0), (10, 0), (11, 0), (12, 0), (13, 0), (14, 0), (15, 0), (16, 0), (17, 0), (18, 0), (19, 0), (20, 0), (21, 3)]) (by kernel_rfl) (by simp [LeH, get]) ?_
            simp only [go_sem, Int.toNat_natCast, l1, l2, l3, l4, i6, i1, gt, gl, hmn2, hls]
            refine ih ⟨1, s1.popC (ps' ++ [t]) i m, t, p1, p2⟩ _ k1 (Nat.lt_trans k2 hlt) ?_
            have e : (⟨s1.seen, s1.low, s1.at_, s1.path.take (ps' ++ [t]).length, s1.held.take i, s1.count, setAll s1.names (s1.held.drop i) m⟩ : Sr) = s1.popC (ps' ++ [t]) i m := by rw [hcp]; rfl
            rw [← e]
            refine Wk.trans ?_ (cutW g sh p1 p2 1 s1.seen s1.low s1.at_ s1.path s1.held (ps' ++ [t]).length i s1.count (setAll s1.names (s1.held.drop i) m) t (by omega) (by omega))
            exact (Wk.forget (by simp [Le, LeE, LeH, get, envIds, hpIds, KeepH, D.ids, idsL, AO.ids, setL, base, nI_len, encI_set, l1, l2, l3, l4, setAll_len, hls]))
      · have hk : s1.ad v < (g.getD v []).length := by have := of_decide_eq_true c1; omega
        obtain ⟨w, hw, hwn⟩ := tj.rng v _ hk
        have gw : (encI (g.getD v [])).getD (s1.ad v) [] = [.int .i64 (w : Nat)] := by rw [encI_get _ _ hk, hw]
        have i2 : (0 : Int) ≤ (s1.ad v : Int) ∧ (s1.ad v : Int) < ((g.getD v []).length : Int) := by omega
        have i3 : (0 : Int) ≤ (w : Int) ∧ (w : Int) < (g.length : Int) := by omega
        have hrl : (g.getD v []).length ≤ 10000000 := hrow _ (by rw [gde hvn]; exact List.getElem_mem hvn)
        have hwr : IntKind.i64.wrap ((s1.ad v : Int) + 1) = ((s1.ad v + 1 : Nat) : Int) := wrap_sm (by omega)
        have gs : (encT sh).getD w [] = [.bool (sh.getD w false)] := encT_get sh w (by omega)
        have gn : (encI (nI s1.seen)).getD w [] = [.int .i64 (s1.sn w : Nat)] := by rw [encI_get (nI s1.seen) w (by rw [nI_len]; omega), nI_get]; rfl
        have gnm : (encI s1.names).getD w [] = [.int .i64 (s1.nm w)] := by rw [encI_get s1.names w (by omega)]; simp [Sr.nm, List.getD, show w < s1.names.length by omega]
        simp only [go_sem, c1]
        refine X_any0 mixed (p := [(0, 0), (1, 0), (2, 0), (3, 0), (4, 0), (5, 0), (6, 0), (7, 0), (8, 0), (9, 0), (10, 0), (11, 0), (12, 0), (13, 0), (14, 0), (15, 0), (16, 0)]) (by kernel_rfl) (by simp [LeH, get]) ?_
        simp only [go_sem, Int.toNat_natCast, l1, l2, l3, l4, i1, ga, gg, i2, gw, i3, hwr, gs, hsh]
        cases c2 : sh.getD w false
        rotate_left
        · simp only [go_sem, c2]
          obtain ⟨k1, k2⟩ := FI.inc1 hI0 hk hw (fun h => by rw [h] at c2; cases c2) p1 p2
          refine ih ⟨1, s1.inc v, v, p1, p2⟩ _ k1 (Nat.lt_trans k2 hlt) ?_
          rw [show s1.inc v = (⟨s1.seen, s1.low, s1.at_.set v (s1.ad v + 1), s1.path.take s1.path.length, s1.held.take s1.held.length, s1.count, s1.names⟩ : Sr) by rw [List.take_length, List.take_length]; rfl]
          refine Wk.trans ?_ (cutW g sh p1 p2 1 s1.seen s1.low (s1.at_.set v (s1.ad v + 1)) s1.path s1.held s1.path.length s1.held.length s1.count s1.names v (Nat.le_refl _) (Nat.le_refl _))
          exact (Wk.forget (by simp [Le, LeE, LeH, get, envIds, hpIds, KeepH, D.ids, idsL, AO.ids, setL, base, nI_len, encI_set, l1, l2, l3, l4]))
        · simp only [go_sem, c2]
          simp only [go_sem, c2, Int.toNat_natCast, l1, i3, gn]
          cases c3 : decide ((s1.sn w : Int) = 0)
          rotate_left
          · simp only [go_sem, c3]
            obtain ⟨k1, k2⟩ := FI.inc0 hI0 hk hw hwn c2 (by have := of_decide_eq_true c3; omega) p1 p2
            refine ih ⟨0, s1.inc v, w, p1, p2⟩ _ k1 (Nat.lt_trans k2 hlt) ?_
            rw [show s1.inc v = (⟨s1.seen, s1.low, s1.at_.set v (s1.ad v + 1), s1.path.take s1.path.length, s1.held.take s1.held.length, s1.count, s1.names⟩ : Sr) by rw [List.take_length, List.take_length]; rfl]
            refine Wk.trans ?_ (cutW g sh p1 p2 0 s1.seen s1.low (s1.at_.set v (s1.ad v + 1)) s1.path s1.held s1.path.length s1.held.length s1.count s1.names w (Nat.le_refl _) (Nat.le_refl _))
            exact (Wk.forget (by simp [Le, LeE, LeH, get, envIds, hpIds, KeepH, D.ids, idsL, AO.ids, setL, base, nI_len, encI_set, l1, l2, l3, l4]))
          have h3 : s1.sn w ≠ 0 := by have := of_decide_eq_false c3; omega
          simp only [go_sem, c3]
          simp only [go_sem, c3, Int.toNat_natCast, l4, i3, gnm]
          cases c4 : decide (s1.nm w < 0)
          · simp only [go_sem, c4]
            obtain ⟨k1, k2⟩ := FI.inc1 hI0 hk hw (fun _ => ⟨h3, fun hm => by have := ((tj.hld w).1 hm).2; have := of_decide_eq_false c4; omega⟩) p1 p2
            refine ih ⟨1, s1.inc v, v, p1, p2⟩ _ k1 (Nat.lt_trans k2 hlt) ?_
            rw [show s1.inc v = (⟨s1.seen, s1.low, s1.at_.set v (s1.ad v + 1), s1.path.take s1.path.length, s1.held.take s1.held.length, s1.count, s1.names⟩ : Sr) by rw [List.take_length, List.take_length]; rfl]
            refine Wk.trans ?_ (cutW g sh p1 p2 1 s1.seen s1.low (s1.at_.set v (s1.ad v + 1)) s1.path s1.held s1.path.length s1.held.length s1.count s1.names v (Nat.le_refl _) (Nat.le_refl _))
            exact (Wk.forget (by simp [Le, LeE, LeH, get, envIds, hpIds, KeepH, D.ids, idsL, AO.ids, setL, base, nI_len, encI_set, l1, l2, l3, l4]))
          · have h4 := of_decide_eq_true c4
            have gl : (encI (nI s1.low)).getD v [] = [.int .i64 (s1.lw v : Nat)] := by rw [encI_get (nI s1.low) v (by rw [nI_len]; omega), nI_get]; rfl
            simp only [go_sem, c4]
            refine X_any0 mixed (p := [(0, 0), (1, 0), (2, 0), (3, 0), (4, 0), (5, 0), (6, 0), (7, 0), (8, 0), (9, 0), (10, 0), (11, 0), (12, 0), (13, 0), (14, 0), (15, 0), (16, 0), (17, 0), (18, 0), (19, 0), (20, 0), (21, 3)]) (by kernel_rfl) (by simp [LeH, get]) ?_
            have hmn : (if (s1.sn w : Int) < (s1.lw v : Int) then (s1.sn w : Int) else (s1.lw v : Int)) = ((min (s1.lw v) (s1.sn w) : Nat) : Int) := by split <;> omega
            simp only [go_sem, Int.toNat_natCast, l1, l2, l3, l4, i1, i3, gl, gn, hmn]
            obtain ⟨k1, k2⟩ := FI.incl hI0 hk hw c2 h3 h4 p1 p2
            refine ih ⟨1, (s1.inc v).lo1 v (min (s1.lw v) (s1.sn w)), v, p1, p2⟩ _ k1 (Nat.lt_trans k2 hlt) ?_
            rw [show (s1.inc v).lo1 v (min (s1.lw v) (s1.sn w)) = (⟨s1.seen, s1.low.set v (min (s1.lw v) (s1.sn w)), s1.at_.set v (s1.ad v + 1), s1.path.take s1.path.length, s1.held.take s1.held.length, s1.count, s1.names⟩ : Sr) by rw [List.take_length, List.take_length]; rfl]
            refine Wk.trans ?_ (cutW g sh p1 p2 1 s1.seen (s1.low.set v (min (s1.lw v) (s1.sn w))) (s1.at_.set v (s1.ad v + 1)) s1.path s1.held s1.path.length s1.held.length s1.count s1.names v (Nat.le_refl _) (Nat.le_refl _))
            exact (Wk.forget (by simp [Le, LeE, LeH, get, envIds, hpIds, KeepH, D.ids, idsL, AO.ids, setL, base, nI_len, encI_set, l1, l2, l3, l4]))
    · obtain ⟨rfl, ps, hp⟩ := at1 hl
      rw [if_neg hl] at tj
      refine ⟨_, rfl, ?_⟩
      obtain ⟨hvp, hvh, hvn, hvo2, hmax, hps, hvps⟩ := tj.last hp
      unfold FB.st
      simp only [go_sem]
      have l1 := tj.l1
      have l2 := tj.l2
      have l3 := tj.l3
      have l4 := tj.l4
      have i1 : (0 : Int) ≤ (v : Int) ∧ (v : Int) < (g.length : Int) := by omega
      have ga : (encI (nI s.at_)).getD v [] = [.int .i64 (s.ad v : Nat)] := by rw [encI_get (nI s.at_) v (by rw [nI_len]; omega), nI_get]; rfl
      have gg := encG_get g v hvn
      refine X_any0 mixed (p := [(0, 0), (1, 0), (2, 0), (3, 0), (4, 0), (5, 0), (6, 0), (7, 0), (8, 0), (9, 0), (10, 0), (11, 0), (12, 0), (13, 0), (14, 0), (15, 0)]) (by kernel_rfl) (by simp [LeH, get]) ?_
      simp only [go_sem, Int.toNat_natCast, l1, l2, l3, l4, i1, ga, gg]
      cases c1 : decide ((s.ad v : Int) < ((g.getD v []).length : Int))
      · simp only [go_sem, c1]
        refine X_any0 mixed (p := [(0, 0), (1, 0), (2, 0), (3, 0), (4, 0), (5, 0), (6, 0), (7, 0), (8, 0), (9, 0), (10, 0), (11, 0), (12, 0), (13, 0), (14, 3)]) (by kernel_rfl) (by simp [LeH, get]) ?_
        have hpl : s.path.length = ps.length + 1 := by rw [hp]; simp
        have hw1 : IntKind.i64.wrap ((s.path.length : Int) - 1) = ((ps.length : Nat) : Int) := by rw [hpl, wrap_i64_id (by omega) (by omega)]; omega
        have hw2 : (0 : Int) ≤ ((ps.length : Nat) : Int) ∧ ((ps.length : Nat) : Int) ≤ (s.path.length : Int) := by omega
        have hw3 : (((ps.length : Nat) : Int) - 0).toNat = ps.length := by omega
        have gl : (encI (nI s.low)).getD v [] = [.int .i64 (s.lw v : Nat)] := by rw [encI_get (nI s.low) v (by rw [nI_len]; omega), nI_get]; rfl
        have gnv : (encI (nI s.seen)).getD v [] = [.int .i64 (s.sn v : Nat)] := by rw [encI_get (nI s.seen) v (by rw [nI_len]; omega), nI_get]; rfl
        simp only [go_sem, Int.toNat_natCast, l1, l2, l3, l4, hw1, hw2, hw3]
        refine X_any0 mixed (p := [(0, 0), (1, 0), (2, 0), (3, 0), (4, 0), (5, 0), (6, 0), (7, 0), (8, 0), (9, 0), (10, 0), (11, 0), (12, 0), (13, 0), (14, 0)]) (by kernel_rfl) (by simp [LeH, get]) ?_
        simp only [go_sem, Int.toNat_natCast, l1, l2, l3, l4, i1, gl, gnv]
        have hal : s.ad v = (g.getD v []).length := by have := of_decide_eq_false c1; have := tj.atl v; omega
        rcases List.eq_nil_or_concat ps with rfl | ⟨ps', t, hps'⟩
        · have hlr := tj.root (v := v) (by simpa using hp)
          have c5 : decide ((s.lw v : Int) = (s.sn v : Int)) = true := decide_eq_true (by omega)
          obtain ⟨i, hi, hiv⟩ := List.mem_iff_getElem.1 hvh
          rw [← getD_eq (x := 0) hi] at hiv
          have hc := complete_ok g sh s s.path 0 i hi (by omega) (held_at tj hi hiv).2.2 (fun w hw => by rw [l4]; exact (tj.opn w ((tj.hld w).1 hw).1).1)
          simp only [Sr.bx, l1, l2, l3, l4, hiv] at hc
          simp only [go_sem, c5]
          refine Cc_of hc ?_
          rintro h' r ⟨m, ⟨hm1, hm2⟩, rfl, rfl⟩
          have hT' := tj.popC (ps := []) hp hal hlr hi hiv hm1 hm2
          have hi0 : i = 0 := by
            rcases Nat.eq_zero_or_pos i with h | h
            · exact h
            · obtain ⟨p, h3, _⟩ := hT'.anc (s.held.getD 0 0) (by show _ ∈ s.held.take i; rw [getD_eq (show 0 < s.held.length by omega)]; exact List.mem_iff_getElem.2 ⟨0, by simp; omega, by rw [List.getElem_take]⟩)
              cases h3
          subst hi0
          simp only [go_sem]
          refine end_own ?_
          simp only [go_sem]
          exact ⟨s.popC [] 0 m, s.path, s.held, hT', rfl, by simp [Sr.popC], by show s.count + _ = _; rw [unS_same (s' := s.popC [] 0 m) (s := s) rfl]; exact cu, mo, v0', .inr ⟨p1, p2, rfl⟩⟩
        · obtain rfl : ps = ps' ++ [t] := by rw [hps', List.concat_eq_append]
          have htp : t ∈ s.path := by rw [hp]; simp
          have htn := (tj.opn t ((tj.hld t).1 (tj.pth t htp)).1).1
          have c6 : decide ((0 : Int) < (((ps' ++ [t]).length : Nat) : Int)) = true := decide_eq_true (by simp)
          have hw4 : IntKind.i64.wrap ((((ps' ++ [t]).length : Nat) : Int) - 1) = ((ps'.length : Nat) : Int) := by rw [wrap_i64_id (by omega) (by omega)]; simp
          have i5 : (0 : Int) ≤ ((ps'.length : Nat) : Int) ∧ ((ps'.length : Nat) : Int) < (((ps' ++ [t]).length : Nat) : Int) := by simp; omega
          have gp : (encI (nI s.path)).getD ps'.length [] = [.int .i64 (t : Nat)] := by
            rw [encI_get (nI s.path) ps'.length (by rw [nI_len, hp]; simp), nI_get, hp]; simp [List.getD]
          have i6 : (0 : Int) ≤ (t : Int) ∧ (t : Int) < (g.length : Int) := by omega
          have gt : (encI (nI s.low)).getD t [] = [.int .i64 (s.lw t : Nat)] := by rw [encI_get (nI s.low) t (by rw [nI_len]; omega), nI_get]; rfl
          have hmn2 : (if (s.lw v : Int) < (s.lw t : Int) then (s.lw v : Int) else (s.lw t : Int)) = ((min (s.lw t) (s.lw v) : Nat) : Int) := by split <;> omega
          have hcp : s.path.take (ps' ++ [t]).length = ps' ++ [t] := by rw [hp, List.take_left' rfl]
          cases c5 : decide ((s.lw v : Int) = (s.sn v : Int))
          · have hne : s.lw v ≠ s.sn v := by have := of_decide_eq_false c5; omega
            simp only [go_sem, c5]
            simp only [go_sem, c6]
            refine X_any0 mixed (p := [(0, 0), (1, 0), (2, 0), (3, 0), (4, 0), (5, 0), (6, 0), (7, 0), (8, 0), (9, 0), (10, 0), (11, 0), (12, 0), (13, 0), (14, 0)]) (by kernel_rfl) (by simp [LeH, get]) ?_
            simp only [go_sem, Int.toNat_natCast, hw4, i5, gp]
            refine X_any0 mixed (p := [(0, 0), (1, 0), (2, 0), (3, 0), (4, 0), (5, 0), (6, 0), (7, 0), (8, 0), (9, 0), (10, 0), (11, 0), (12, 0), (13, 0), (14, 0), (15, 0), (16, 0), (17, 0), (18, 0), (19, 0), (20, 0), (21, 3)]) (by kernel_rfl) (by simp [LeH, get]) ?_
            simp only [go_sem, Int.toNat_natCast, l1, l2, l3, l4, i6, i1, gt, gl, hmn2]
            obtain ⟨k1, k2⟩ := FI.back hI0 hp hal hne p1 p2
            refine ih ⟨1, s.popB (ps' ++ [t]) t (min (s.lw t) (s.lw v)), t, p1, p2⟩ _ k1 k2 ?_
            have e : (⟨s.seen, s.low.set t (min (s.lw t) (s.lw v)), s.at_, s.path.take (ps' ++ [t]).length, s.held.take s.held.length, s.count, s.names⟩ : Sr) = s.popB (ps' ++ [t]) t (min (s.lw t) (s.lw v)) := by rw [hcp, List.take_length]; rfl
            rw [← e]
            refine Wk.trans ?_ (cutW g sh p1 p2 1 s.seen (s.low.set t (min (s.lw t) (s.lw v))) s.at_ s.path s.held (ps' ++ [t]).length s.held.length s.count s.names t (by omega) (Nat.le_refl _))
            exact (Wk.forget (by simp [Le, LeE, LeH, get, envIds, hpIds, KeepH, D.ids, idsL, AO.ids, setL, base, nI_len, encI_set, l1, l2, l3, l4]))
          · have hlr : s.lw v = s.sn v := by have := of_decide_eq_true c5; omega
            obtain ⟨i, hi, hiv⟩ := List.mem_iff_getElem.1 hvh
            rw [← getD_eq (x := 0) hi] at hiv
            have hc := complete_ok g sh s s.path (ps' ++ [t]).length i hi (by omega) (held_at tj hi hiv).2.2 (fun w hw => by rw [l4]; exact (tj.opn w ((tj.hld w).1 hw).1).1)
            simp only [Sr.bx, l1, l2, l3, l4, hiv] at hc
            simp only [go_sem, c5]
            refine Cc_of hc ?_
            rintro h' r ⟨m, ⟨hm1, hm2⟩, rfl, rfl⟩
            obtain ⟨k1, k2, k3⟩ := FI.comp hI0 hp hal hlr hi hiv hm1 hm2 p1 p2
            rw [k3] at hmn2
            have hls : s.low.set t (s.lw t) = s.low := by
              apply List.ext_getElem (by simp)
              intro j h1 h2
              rw [List.getElem_set]
              split
              · rename_i e; subst e; exact getD_eq h2
              · rfl
            simp only [go_sem]
            simp only [go_sem, c6]
            refine X_any0 mixed (p := [(0, 0), (1, 0), (2, 0), (3, 0), (4, 0), (5, 0), (6, 0), (7, 0), (8, 0), (9, 0), (10, 0), (11, 0), (12, 0), (13, 0), (14, 0)]) (by kernel_rfl) (by simp [LeH, get]) ?_
            simp only [go_sem, Int.toNat_natCast, hw4, i5, gp]
            refine X_any0 mixed (p := [(0, 0), (1, 0), (2, 0), (3, 0), (4, 0), (5, 0), (6, 0), (7, 0), (8, 0), (9, 0), (10, 0), (11, 0), (12, 0), (13, 0), (14, 0), (15, 0), (16, 0), (17, 0), (18, 0), (19, 0), (20, 0), (21, 3)]) (by kernel_rfl) (by simp [LeH, get]) ?_
            simp only [go_sem, Int.toNat_natCast, l1, l2, l3, l4, i6, i1, gt, gl, hmn2, hls]
            refine ih ⟨1, s.popC (ps' ++ [t]) i m, t, p1, p2⟩ _ k1 k2 ?_
            have e : (⟨s.seen, s.low, s.at_, s.path.take (ps' ++ [t]).length, s.held.take i, s.count, setAll s.names (s.held.drop i) m⟩ : Sr) = s.popC (ps' ++ [t]) i m := by rw [hcp]; rfl
            rw [← e]
            refine Wk.trans ?_ (cutW g sh p1 p2 1 s.seen s.low s.at_ s.path s.held (ps' ++ [t]).length i s.count (setAll s.names (s.held.drop i) m) t (by omega) (by omega))
            exact (Wk.forget (by simp [Le, LeE, LeH, get, envIds, hpIds, KeepH, D.ids, idsL, AO.ids, setL, base, nI_len, encI_set, l1, l2, l3, l4, setAll_len, hls]))
      · have hk : s.ad v < (g.getD v []).length := by have := of_decide_eq_true c1; omega
        obtain ⟨w, hw, hwn⟩ := tj.rng v _ hk
        have gw : (encI (g.getD v [])).getD (s.ad v) [] = [.int .i64 (w : Nat)] := by rw [encI_get _ _ hk, hw]
        have i2 : (0 : Int) ≤ (s.ad v : Int) ∧ (s.ad v : Int) < ((g.getD v []).length : Int) := by omega
        have i3 : (0 : Int) ≤ (w : Int) ∧ (w : Int) < (g.length : Int) := by omega
        have hrl : (g.getD v []).length ≤ 10000000 := hrow _ (by rw [gde hvn]; exact List.getElem_mem hvn)
        have hwr : IntKind.i64.wrap ((s.ad v : Int) + 1) = ((s.ad v + 1 : Nat) : Int) := wrap_sm (by omega)
        have gs : (encT sh).getD w [] = [.bool (sh.getD w false)] := encT_get sh w (by omega)
        have gn : (encI (nI s.seen)).getD w [] = [.int .i64 (s.sn w : Nat)] := by rw [encI_get (nI s.seen) w (by rw [nI_len]; omega), nI_get]; rfl
        have gnm : (encI s.names).getD w [] = [.int .i64 (s.nm w)] := by rw [encI_get s.names w (by omega)]; simp [Sr.nm, List.getD, show w < s.names.length by omega]
        simp only [go_sem, c1]
        refine X_any0 mixed (p := [(0, 0), (1, 0), (2, 0), (3, 0), (4, 0), (5, 0), (6, 0), (7, 0), (8, 0), (9, 0), (10, 0), (11, 0), (12, 0), (13, 0), (14, 0), (15, 0), (16, 0)]) (by kernel_rfl) (by simp [LeH, get]) ?_
        simp only [go_sem, Int.toNat_natCast, l1, l2, l3, l4, i1, ga, gg, i2, gw, i3, hwr, gs, hsh]
        cases c2 : sh.getD w false
        rotate_left
        · simp only [go_sem, c2]
          obtain ⟨k1, k2⟩ := FI.inc1 hI0 hk hw (fun h => by rw [h] at c2; cases c2) p1 p2
          refine ih ⟨1, s.inc v, v, p1, p2⟩ _ k1 k2 ?_
          rw [show s.inc v = (⟨s.seen, s.low, s.at_.set v (s.ad v + 1), s.path.take s.path.length, s.held.take s.held.length, s.count, s.names⟩ : Sr) by rw [List.take_length, List.take_length]; rfl]
          refine Wk.trans ?_ (cutW g sh p1 p2 1 s.seen s.low (s.at_.set v (s.ad v + 1)) s.path s.held s.path.length s.held.length s.count s.names v (Nat.le_refl _) (Nat.le_refl _))
          exact (Wk.forget (by simp [Le, LeE, LeH, get, envIds, hpIds, KeepH, D.ids, idsL, AO.ids, setL, base, nI_len, encI_set, l1, l2, l3, l4]))
        · simp only [go_sem, c2]
          simp only [go_sem, c2, Int.toNat_natCast, l1, i3, gn]
          cases c3 : decide ((s.sn w : Int) = 0)
          rotate_left
          · simp only [go_sem, c3]
            obtain ⟨k1, k2⟩ := FI.inc0 hI0 hk hw hwn c2 (by have := of_decide_eq_true c3; omega) p1 p2
            refine ih ⟨0, s.inc v, w, p1, p2⟩ _ k1 k2 ?_
            rw [show s.inc v = (⟨s.seen, s.low, s.at_.set v (s.ad v + 1), s.path.take s.path.length, s.held.take s.held.length, s.count, s.names⟩ : Sr) by rw [List.take_length, List.take_length]; rfl]
            refine Wk.trans ?_ (cutW g sh p1 p2 0 s.seen s.low (s.at_.set v (s.ad v + 1)) s.path s.held s.path.length s.held.length s.count s.names w (Nat.le_refl _) (Nat.le_refl _))
            exact (Wk.forget (by simp [Le, LeE, LeH, get, envIds, hpIds, KeepH, D.ids, idsL, AO.ids, setL, base, nI_len, encI_set, l1, l2, l3, l4]))
          have h3 : s.sn w ≠ 0 := by have := of_decide_eq_false c3; omega
          simp only [go_sem, c3]
          simp only [go_sem, c3, Int.toNat_natCast, l4, i3, gnm]
          cases c4 : decide (s.nm w < 0)
          · simp only [go_sem, c4]
            obtain ⟨k1, k2⟩ := FI.inc1 hI0 hk hw (fun _ => ⟨h3, fun hm => by have := ((tj.hld w).1 hm).2; have := of_decide_eq_false c4; omega⟩) p1 p2
            refine ih ⟨1, s.inc v, v, p1, p2⟩ _ k1 k2 ?_
            rw [show s.inc v = (⟨s.seen, s.low, s.at_.set v (s.ad v + 1), s.path.take s.path.length, s.held.take s.held.length, s.count, s.names⟩ : Sr) by rw [List.take_length, List.take_length]; rfl]
            refine Wk.trans ?_ (cutW g sh p1 p2 1 s.seen s.low (s.at_.set v (s.ad v + 1)) s.path s.held s.path.length s.held.length s.count s.names v (Nat.le_refl _) (Nat.le_refl _))
            exact (Wk.forget (by simp [Le, LeE, LeH, get, envIds, hpIds, KeepH, D.ids, idsL, AO.ids, setL, base, nI_len, encI_set, l1, l2, l3, l4]))
          · have h4 := of_decide_eq_true c4
            have gl : (encI (nI s.low)).getD v [] = [.int .i64 (s.lw v : Nat)] := by rw [encI_get (nI s.low) v (by rw [nI_len]; omega), nI_get]; rfl
            simp only [go_sem, c4]
            refine X_any0 mixed (p := [(0, 0), (1, 0), (2, 0), (3, 0), (4, 0), (5, 0), (6, 0), (7, 0), (8, 0), (9, 0), (10, 0), (11, 0), (12, 0), (13, 0), (14, 0), (15, 0), (16, 0), (17, 0), (18, 0), (19, 0), (20, 0), (21, 3)]) (by kernel_rfl) (by simp [LeH, get]) ?_
            have hmn : (if (s.sn w : Int) < (s.lw v : Int) then (s.sn w : Int) else (s.lw v : Int)) = ((min (s.lw v) (s.sn w) : Nat) : Int) := by split <;> omega
            simp only [go_sem, Int.toNat_natCast, l1, l2, l3, l4, i1, i3, gl, gn, hmn]
            obtain ⟨k1, k2⟩ := FI.incl hI0 hk hw c2 h3 h4 p1 p2
            refine ih ⟨1, (s.inc v).lo1 v (min (s.lw v) (s.sn w)), v, p1, p2⟩ _ k1 k2 ?_
            rw [show (s.inc v).lo1 v (min (s.lw v) (s.sn w)) = (⟨s.seen, s.low.set v (min (s.lw v) (s.sn w)), s.at_.set v (s.ad v + 1), s.path.take s.path.length, s.held.take s.held.length, s.count, s.names⟩ : Sr) by rw [List.take_length, List.take_length]; rfl]
            refine Wk.trans ?_ (cutW g sh p1 p2 1 s.seen (s.low.set v (min (s.lw v) (s.sn w))) (s.at_.set v (s.ad v + 1)) s.path s.held s.path.length s.held.length s.count s.names v (Nat.le_refl _) (Nat.le_refl _))
            exact (Wk.forget (by simp [Le, LeE, LeH, get, envIds, hpIds, KeepH, D.ids, idsL, AO.ids, setL, base, nI_len, encI_set, l1, l2, l3, l4]))
end Go.Am
end
section
namespace Go.Am
open Go Go.Proofs
set_option maxRecDepth 100000
set_option maxHeartbeats 2000000
set_option linter.unusedSimpArgs false
set_option linter.unusedVariables false
theorem and32 (n : Int) (h0 : 0 ≤ n) (h1 : n < 4294967296) : ((BitVec.ofInt 64 n &&& BitVec.ofInt 64 4294967295).toNat : Int) = n := by
  obtain ⟨m, rfl⟩ := Int.eq_ofNat_of_zero_le h0
  have h2 : m < 4294967296 := by omega
  rw [BitVec.toNat_and]
  have e1 : (BitVec.ofInt 64 (m : Int)).toNat = m := by
    simp only [BitVec.toNat_ofInt]
    omega
  have e2 : (BitVec.ofInt 64 4294967295).toNat = 2 ^ 32 - 1 := by decide
  rw [e1, e2, Nat.and_two_pow_sub_one_eq_mod]
  omega
theorem shr32 (n : Int) (h0 : 0 ≤ n) (h1 : n < 4294967296) : n.fdiv 4294967296 = 0 := by
  rw [Int.fdiv_eq_ediv_of_nonneg _ (by omega)]
  omega
theorem wrapu (n : Int) (h0 : 0 ≤ n) (h1 : n < 4294967296) : IntKind.u64.wrap n = n := by
  simp [IntKind.wrap, IntKind.bits, IntKind.signed]
  omega
theorem mul64_ok (n : Int) (h0 : 0 ≤ n) (h1 : n < 4294967296) :
    ACalls Try.prog 97 [.p (.int .u64 1), .p (.int .u64 n)] [] fun h d => h = [] ∧ d = .tup [.p (.int .u64 0), .p (.int .u64 n)] := by
  refine ACalls_X Try.func97 rfl enters97 (by simp [Try.f97]) ?_
  simp only [go_sem, h0, h1]
  all_goals (try refine end_pure ?_)
  have pw : (2 : Int) ^ min 32 64 = 4294967296 := by decide
  have w0 := wrapu 0 (by omega) (by omega)
  have w1 := wrapu 1 (by omega) (by omega)
  have a1 := and32 1 (by omega) (by omega)
  have a0 := and32 0 (by omega) (by omega)
  have an := and32 n h0 h1
  repeat erw [an]
  repeat erw [a1]
  simp only [pw, shr32 n h0 h1, shr32 1 (by omega) (by omega), shr32 0 (by omega) (by omega), wrapu n h0 h1, w0, w1, Int.zero_mul, Int.mul_zero, Int.zero_add, Int.add_zero, Int.one_mul]
  repeat erw [a0]
  simp only [pw, shr32 n h0 h1, shr32 1 (by omega) (by omega), shr32 0 (by omega) (by omega), wrapu n h0 h1, w0, w1, Int.zero_mul, Int.mul_zero, Int.zero_add, Int.add_zero, Int.one_mul]
  simp only [go_sem]
theorem mul_ok (n : Int) (h0 : 0 ≤ n) (h1 : n < 4294967296) :
    ACalls Try.prog 72 [.p (.int .u64 1), .p (.int .u64 n)] [] fun h d => h = [] ∧ d = .tup [.p (.int .u64 0), .p (.int .u64 n)] := by
  refine ACalls_X Try.func72 rfl enters72 (by simp [Try.f72]) ?_
  simp only [go_sem, h0, h1]
  refine Cc_of ((mul64_ok n h0 h1)) ?_
  rintro h' r ⟨rfl, rfl⟩
  simp only [go_sem]
  all_goals (try refine end_pure ?_)
  all_goals (try simp only [go_sem])
end Go.Am
end
section
namespace Go.Am
open Go Go.Proofs
set_option maxRecDepth 100000
set_option maxHeartbeats 2000000
set_option linter.unusedSimpArgs false
set_option linter.unusedVariables false
theorem wrapu2 (n : Int) (h0 : 0 ≤ n) (h1 : n ≤ 24) : IntKind.u64.wrap n = n := wrapu n h0 (by omega)
theorem wrapi2 (n : Int) (h0 : 0 ≤ n) (h1 : n ≤ 24) : IntKind.i64.wrap n = n := by
  simp [IntKind.wrap, IntKind.bits, IntKind.signed]
  omega
def repF (n k : Nat) : List Int := List.replicate k (-1) ++ List.replicate (n - k) 0
theorem repF_len (n k : Nat) (h : k ≤ n) : (repF n k).length = n := by simp [repF]; omega
theorem repF_full (n : Nat) : repF n n = List.replicate n (-1) := by simp [repF]
theorem repF_step (n k : Nat) (h : k ≤ n) : (repF n k).take k ++ ((repF n k).take k).take (n - k) ++ (repF n k).drop (k + min (n - k) k) = repF n (k + min (n - k) k) := by
  have t1 : (repF n k).take k = List.replicate k (-1) := by simp [repF]
  have t2 : (List.replicate k (-1 : Int)).take (n - k) = List.replicate (min (n - k) k) (-1) := by simp
  have t3 : (repF n k).drop (k + min (n - k) k) = List.replicate (n - (k + min (n - k) k)) 0 := by
    simp only [repF, List.drop_append, List.length_replicate]
    rw [List.drop_eq_nil_of_le (by simp), List.nil_append, List.drop_replicate]
    congr 1; omega
  rw [t1, t2, t3, List.replicate_append_replicate]
  rfl
theorem widI (l : List Int) : Wid 1 (encI l) := by simp [Wid, encI]
theorem repeat_ok (n : Nat) (hn : n ≤ 24) :
    ACalls Try.prog 42 [.p (.sl (encI [-1])), .p (.int .i64 (n : Nat))] [] fun h d => h = [(0, .arr 3 1 (encI (List.replicate n (-1))))] ∧ d = .ref 0 0 n n := by
  have h0 : (0 : Int) ≤ (n : Nat) := by omega
  have h1 : ((n : Nat) : Int) ≤ 24 := by omega
  have w1 := wrapu2 n h0 h1
  have w2 := wrapi2 n h0 h1
  have c1 : decide (((n : Nat) : Int) < 0) = false := by simp
  have w3 : IntKind.u64.wrap 1 = 1 := wrapu 1 (by omega) (by omega)
  refine ACalls_X Try.func42 rfl enters42 (by simp [Try.f42]) ?_
  simp only [go_sem, c1, w1, w3]
  refine Cc_of ((mul_ok n h0 (by omega))) ?_
  rintro h' r ⟨rfl, rfl⟩
  have c2 : decide (9223372036854775807 < ((n : Nat) : Int)) = false := by simp; omega
  simp only [go_sem, c2, w2, Int.toNat_natCast]
  refine ⟨by omega, ⟨⟨by simp [Wid, encI], by simp⟩, ?_⟩⟩
  refine X_loop_inv (fun k : Nat => ⟨[(7, .ref 30 0 n n), (8, .p (.int .i64 (k : Nat)))], [(30, .arr 3 1 (encI (repF n k)))], 48⟩) (fun k => k ≤ n ∧ (k = 0 → n = 0)) (fun k => n - k) (min n 1) ⟨by omega, by omega⟩
    ?_ ?_
  · rcases n with _ | n
    · exact (Wk.forget (by simp [Le, LeE, LeH, get, envIds, hpIds, KeepH, D.ids, idsL, AO.ids, setL, base, repF]))
    · have e1 : min (n + 1) 1 = 1 := by omega
      rw [e1]
      exact (Wk.forget (by simp [Le, LeE, LeH, get, envIds, hpIds, KeepH, D.ids, idsL, AO.ids, setL, base, encI, repF]))
  rintro k m ⟨hk1, hk2⟩ ih
  cases c3 : decide ((k : Int) < (n : Nat))
  · obtain rfl : k = n := by have := of_decide_eq_false c3; omega
    have hl := repF_len k k (Nat.le_refl _)
    simp only [go_sem, c3, hl]
    refine end_own ?_
    simp only [go_sem, c3, hl, repF_full]
  · have hk3 : k < n := by simpa using of_decide_eq_true c3
    have hl := repF_len n k (by omega)
    have h4 : (0 : Int) ≤ (k : Int) ∧ (k : Int) ≤ ((n : Nat) : Int) := by omega
    simp only [go_sem, c3, h4, hl]
    refine X_any [(30, .arr 3 1 (encI (repF n k)))] mixed (p := [(0,0),(1,0),(2,0),(3,0),(4,0),(5,0),(6,0),(7,4),(8,4),(9,4)]) (by kernel_rfl) (by simp [LeH, get]) ?_
    have hl2 : (encI (repF n k)).length = n := by rw [encI_len]; exact hl
    have e1 : (((n : Nat) : Int) - (k : Int)).toNat = n - k := by omega
    have e2 : ((k : Int) - 0).toNat = k := by omega
    have e3 : ((encI (repF n k)).take k).length = k := by rw [List.length_take, hl2]; omega
    have e4 : IntKind.i64.wrap ((k : Int) + ((min (n - k) k : Nat) : Int)) = ((k + min (n - k) k : Nat) : Int) := by
      simp [IntKind.wrap, IntKind.bits, IntKind.signed]
      omega
    have e5 : (encI (repF n k)).take k ++ ((encI (repF n k)).take k).take (n - k) ++ (encI (repF n k)).drop (k + min (n - k) k) = encI (repF n (k + min (n - k) k)) := by
      rw [← repF_step n k hk1]
      simp [encI, List.map_take, List.map_drop]
    have e6 : Wid 1 ((encI (repF n k)).take k) := by
      rw [encI_take2]; exact widI _
    simp only [go_sem, c3, h4, hl]
    simp only [e1, e2, e3, e4, e5]
    refine ⟨Int.le_refl _, ⟨e6, by omega⟩, ih (k + min (n - k) k) _ ⟨by omega, by omega⟩ (by omega) (Wk.forget (by simp [Le, LeE, LeH, get, envIds, hpIds, KeepH, D.ids, idsL, AO.ids, setL, base]))⟩
end Go.Am
end
section
namespace Go.Am
open Go Go.Proofs
set_option maxRecDepth 100000
set_option maxHeartbeats 2000000
set_option linter.unusedSimpArgs false
set_option linter.unusedVariables false
structure NB where
  k : Nat
  s : Sr
def NB.st (g : List (List Int)) (sh : List Bool) (b : NB) : St := ⟨[(1, .p (.sl (encT sh))), (8, .ptr 30 0), (31, .p (.int .i64 (g.length : Nat))), (32, .p (.int .i64 (b.k : Nat)))],
  [(30, .box [.p (.sl (encG g)), .p (.sl (encT sh)), .ref 21 0 g.length g.length, .ref 23 0 g.length g.length, .ref 25 0 g.length g.length, .ref 40005 0 0 0, .ref 40006 0 0 0, .p (.int .i64 (b.s.count : Nat)), .ref 10028 0 g.length g.length]),
   (25, .arr 3 1 (encI (nI b.s.at_))), (23, .arr 3 1 (encI (nI b.s.low))), (21, .arr 3 1 (encI (nI b.s.seen))), (10028, .arr 3 1 (encI b.s.names)), (40005, .arr 3 1 []), (40006, .arr 3 1 [])], 58⟩
def s00 (n : Nat) : Sr := ⟨List.replicate n 0, List.replicate n 0, List.replicate n 0, [], [], 0, List.replicate n (-1)⟩
def NI (g : List (List Int)) (sh : List Bool) (b : NB) : Prop := b.k ≤ g.length ∧ TJ g sh noP b.s ∧ b.s.path = [] ∧ b.s.held = [] ∧ b.s.count + unS g b.s = g.length ∧ ∀ x, x < b.k → sh.getD x false = false → b.s.sn x ≠ 0
theorem nI_rep (n : Nat) : nI (List.replicate n 0) = List.replicate n 0 := by simp [nI]
theorem cutB (g : List (List Int)) (sh : List Bool) (k : Nat) (s : Sr) (P H : List Nat) : Wk ⟨[(1, .p (.sl (encT sh))), (8, .ptr 30 0), (31, .p (.int .i64 (g.length : Nat))), (32, .p (.int .i64 (k : Nat)))],
      [(30, .box [.p (.sl (encG g)), .p (.sl (encT sh)), .ref 21 0 g.length g.length, .ref 23 0 g.length g.length, .ref 25 0 g.length g.length, .ref 10052 0 0 P.length, .ref 20052 0 0 H.length, .p (.int .i64 (s.count : Nat)), .ref 10028 0 g.length g.length]),
       (25, .arr 3 1 (encI (nI s.at_))), (23, .arr 3 1 (encI (nI s.low))), (21, .arr 3 1 (encI (nI s.seen))), (10028, .arr 3 1 (encI s.names)), (10052, .arr 3 1 (encI (nI P))), (20052, .arr 3 1 (encI (nI H)))], 58⟩ (NB.st g sh ⟨k, s⟩) := by
  refine (Wk.moveBox (id := 30) (j := 5) (q := 10052) (k := 0) (es := encI (nI P)) 40005 rfl (by simp [nI_len, encI_len]) rfl (Nat.zero_le _) rfl).trans ?_
  refine (Wk.moveBox (id := 30) (j := 6) (q := 20052) (k := 0) (es := encI (nI H)) 40006 rfl (by simp [nI_len, encI_len]) rfl (Nat.zero_le _) rfl).trans ?_
  exact (Wk.forget (by simp [Le, LeE, LeH, get, envIds, hpIds, KeepH, D.ids, idsL, AO.ids, setL, base, NB.st, nI_len, encI_len, List.take_zero]))
theorem cutA (g : List (List Int)) (sh : List Bool) (k : Nat) (s : Sr) (P H : List Nat) : Wk ⟨[(1, .p (.sl (encT sh))), (8, .ptr 30 0), (31, .p (.int .i64 (g.length : Nat))), (32, .p (.int .i64 (k : Nat)))],
      [(30, .box [.p (.sl (encG g)), .p (.sl (encT sh)), .ref 21 0 g.length g.length, .ref 23 0 g.length g.length, .ref 25 0 g.length g.length, .ref 40005 0 0 P.length, .ref 40006 0 0 H.length, .p (.int .i64 (s.count : Nat)), .ref 10028 0 g.length g.length]),
       (25, .arr 3 1 (encI (nI s.at_))), (23, .arr 3 1 (encI (nI s.low))), (21, .arr 3 1 (encI (nI s.seen))), (10028, .arr 3 1 (encI s.names)), (40005, .arr 3 1 (encI (nI P))), (40006, .arr 3 1 (encI (nI H)))], 58⟩ (NB.st g sh ⟨k, s⟩) := by
  refine (Wk.moveBox (id := 30) (j := 5) (q := 40005) (k := 0) (es := encI (nI P)) 10052 rfl (by simp [nI_len, encI_len]) rfl (Nat.zero_le _) rfl).trans ?_
  refine (Wk.moveBox (id := 30) (j := 6) (q := 40006) (k := 0) (es := encI (nI H)) 20052 rfl (by simp [nI_len, encI_len]) rfl (Nat.zero_le _) rfl).trans ?_
  refine Wk.trans ?_ (cutB g sh k s [] [])
  exact (Wk.forget (by simp [Le, LeE, LeH, get, envIds, hpIds, KeepH, D.ids, idsL, AO.ids, setL, base, nI_len, encI_len, List.take_zero, nI, encI]))
theorem names_ok (g : List (List Int)) (sh : List Bool) (hg : g.length ≤ 24) (hrow : ∀ r ∈ g, r.length ≤ 10000000) (hsh : sh.length = g.length) (hc : cCheck_v g sh = some 0) (h00 : NI g sh ⟨0, s00 g.length⟩) :
    ACalls Try.prog 15 [.p (.sl (encG g)), .p (.sl (encT sh))] [] fun h d => ∃ s, (TJ g sh noP s ∧ s.path = [] ∧ s.held = [] ∧ ∀ x, x < g.length → sh.getD x false = false → s.sn x ≠ 0) ∧ h = [(0, .arr 3 1 (encI s.names))] ∧ d = .tup [.ref 0 0 g.length g.length, .p (.int .i64 0)] := by
  have h0 : (0 : Int) ≤ ((g.length : Nat) : Int) := by omega
  refine ACalls_X Try.func15 rfl enters15 (by simp [Try.f15]) ?_
  simp only [go_sem]
  refine Cc_of ((cCheck_vok g sh 0 hc)) ?_
  rintro h' r ⟨rfl, rfl⟩
  simp only [go_sem]
  refine X_any0 mixed (p := [(0, 0), (1, 0), (2, 0), (4, 0), (6, 0), (9, 0), (3, 1), (5, 1), (7, 1), (8, 1), (10, 2), (11, 0), (12, 1), (13, 0)]) (by kernel_rfl) (by simp [LeH, get]) ?_
  have hle : ((g.length : Nat) : Int) ≤ ((g.length : Nat) : Int) := Int.le_refl _
  have hl8 : ((g.length : Nat) : Int) * 8 ≤ 140737488355328 := by omega
  have hl1 : ((g.length : Nat) : Int) ≤ 140737488355328 := by omega
  simp only [go_sem, h0, hle, hl8, hl1]
  refine Gh_of ((repeat_ok g.length hg)) ?_
  rintro h' r ⟨rfl, rfl⟩
  simp only [go_sem, h0]
  refine X_loop_inv (NB.st g sh) (NI g sh) (fun b => g.length - b.k) ⟨0, s00 g.length⟩ h00 ?_ ?_
  · refine (Wk.nilBox (id := 30) (j := 5) (q := 40005) (sz := 1) 3 rfl rfl rfl (by decide)).trans ?_
    refine (Wk.nilBox (id := 30) (j := 6) (q := 40006) (sz := 1) 3 rfl rfl rfl (by decide)).trans ?_
    exact (Wk.forget (by simp [Le, LeE, LeH, get, envIds, hpIds, KeepH, D.ids, idsL, AO.ids, setL, base, NB.st, s00, nI_rep]))
  rintro ⟨k, s⟩ m ⟨hk, hT, hpa, hhe, hcu, hse⟩ ih
  simp only at hk hT hpa hhe hcu hse
  unfold NB.st
  cases c1 : decide ((k : Int) < ((g.length : Nat) : Int))
  · obtain rfl : k = g.length := by have := of_decide_eq_false c1; omega
    have hl := hT.l4
    simp only [go_sem, c1, hl]
    refine end_own ?_
    simp only [go_sem, c1, hl]
    exact ⟨s, ⟨hT, hpa, hhe, hse⟩, rfl⟩
  · have hk2 : k < g.length := by simpa using of_decide_eq_true c1
    have h4 : (0 : Int) ≤ (k : Int) ∧ (k : Int) < ((g.length : Nat) : Int) := by omega
    have h5 : (0 : Int) ≤ (k : Int) ∧ (k : Int) < ((sh.length : Nat) : Int) := by omega
    have f1 := encT_get sh k (by omega)
    have g1 := encI_get (nI s.seen) k (by rw [nI_len, hT.l1]; exact hk2)
    rw [nI_get] at g1
    have lse : (nI s.seen).length = g.length := by rw [nI_len, hT.l1]
    cases c2 : sh.getD k false
    · rw [c2] at f1
      cases c3 : decide (((s.seen.getD k 0 : Nat) : Int) = 0)
      · simp only [go_sem, c1, h4, h5, hsh, f1, g1, c3, lse]
        have hsk : s.sn k ≠ 0 := fun h => by have := of_decide_eq_false c3; unfold Sr.sn at h; omega
        refine ih ⟨k + 1, s⟩ _ ⟨hk2, hT, hpa, hhe, hcu, ?_⟩ (by simp only; omega) ?_
        · simp only
          intro x hx hxo
          rcases Nat.lt_succ_iff_lt_or_eq.1 hx with h1 | rfl
          · exact hse x h1 hxo
          · exact hsk
        · rw [wrap_sm (by omega)]
          exact (Wk.forget (by simp [Le, LeE, LeH, get, envIds, hpIds, KeepH, D.ids, idsL, AO.ids, setL, base, NB.st]))
      · have hsk : s.sn k = 0 := by have := of_decide_eq_true c3; unfold Sr.sn; omega
        have hcall := from_ok g sh s k hg hrow hsh hT hpa hhe hcu hk2 c2 hsk
        unfold Sr.bx at hcall
        rw [hpa, hhe, hT.l1, hT.l2, hT.l3, hT.l4] at hcall
        simp only [go_sem, c1, h4, h5, hsh, f1, g1, c3, lse]
        refine Cc_of hcall ?_
        rintro h' r ⟨⟨s', P, H, hT', hp', hh', hcu', hmono, hv0', hform⟩, rfl⟩
        have hse' : ∀ x, x < k + 1 → sh.getD x false = false → s'.sn x ≠ 0 := by
          intro x hx hxo
          rcases Nat.lt_succ_iff_lt_or_eq.1 hx with h1 | rfl
          · exact hmono x (hse x h1 hxo)
          · exact hv0'
        rcases hform with rfl | ⟨p1, p2, rfl⟩
        · simp only [go_sem]
          refine ih ⟨k + 1, s'⟩ _ ⟨hk2, hT', hp', hh', hcu', hse'⟩ (by simp only; omega) ?_
          rw [wrap_sm (by omega)]
          exact Wk.trans (Wk.forget (by simp [Le, LeE, LeH, get, envIds, hpIds, KeepH, D.ids, idsL, AO.ids, setL, base, ])) (cutA g sh (k + 1) s' P H)
        · simp only [go_sem]
          refine ih ⟨k + 1, s'⟩ _ ⟨hk2, hT', hp', hh', hcu', hse'⟩ (by simp only; omega) ?_
          rw [wrap_sm (by omega)]
          exact Wk.trans (Wk.forget (by simp [Le, LeE, LeH, get, envIds, hpIds, KeepH, D.ids, idsL, AO.ids, setL, base, ])) (cutB g sh (k + 1) s' P H)
    · rw [c2] at f1
      simp only [go_sem, c1, h4, h5, hsh, f1, g1]
      refine ih ⟨k + 1, s⟩ _ ⟨hk2, hT, hpa, hhe, hcu, ?_⟩ (by simp only; omega) ?_
      · simp only
        intro x hx hxo
        rcases Nat.lt_succ_iff_lt_or_eq.1 hx with h1 | rfl
        · exact hse x h1 hxo
        · rw [c2] at hxo; cases hxo
      · rw [wrap_sm (by omega)]
        exact (Wk.forget (by simp [Le, LeE, LeH, get, envIds, hpIds, KeepH, D.ids, idsL, AO.ids, setL, base, NB.st]))
end Go.Am
end
section
namespace Go.Am
open Go Go.Proofs
set_option maxRecDepth 100000
set_option linter.unusedVariables false
set_option linter.unusedSimpArgs false
theorem repl0 (n v : Nat) : (List.replicate n 0 : List Nat).getD v 0 = 0 := by
  simp only [List.getD, List.getElem?_replicate]; split <;> rfl
theorem repl1 (n v : Nat) : (List.replicate n (-1) : List Int).getD v (-1) = -1 := by
  simp only [List.getD, List.getElem?_replicate]; split <;> rfl
theorem TJ.init (g : List (List Int)) (sh : List Bool) (hr : ∀ v k, k < (g.getD v []).length → ∃ w : Nat, (g.getD v []).getD k 0 = (w : Int) ∧ w < g.length) : TJ g sh noP (s00 g.length) := by
  have sn0 : ∀ v, (s00 g.length).sn v = 0 := fun v => repl0 _ v
  have ad0 : ∀ v, (s00 g.length).ad v = 0 := fun v => repl0 _ v
  have nm0 : ∀ v, (s00 g.length).nm v = -1 := fun v => repl1 _ v
  have hh : (s00 g.length).held = [] := rfl
  have hp : (s00 g.length).path = [] := rfl
  refine ⟨by simp [s00], by simp [s00], by simp [s00], by simp [s00], hr, ?_, ?_, ?_, ?_, ?_, ?_, ?_, ?_, ?_, ?_, ?_, ?_, ?_, ?_, ?_, ?_, ?_, ?_⟩
  · intro v; rw [sn0]; exact Nat.zero_le _
  · intro v w _ h; exact absurd (sn0 v) h
  · intro v h; exact absurd (sn0 v) h
  · intro v _; exact ad0 v
  · intro v; rw [ad0]; exact Nat.zero_le _
  · intro v; rw [hh, sn0]; simp
  · rw [hh]; exact List.Pairwise.nil
  · rw [hp]; intro p h; cases h
  · rw [hp]; exact List.Pairwise.nil
  · intro v h; rw [nm0] at h; omega
  · intro v w h; rw [nm0] at h; omega
  · rw [hh]; intro x h; cases h
  · rw [hh]; intro x h; cases h
  · rw [hh]; intro x h; cases h
  · rw [hp]; intro p h; cases h
  · rw [hp]; intro p h; cases h
  · rw [hh]; intro x h; cases h
  · intro v _; exact nm0 v
theorem TJ.done {g : List (List Int)} {sh : List Bool} {s : Sr} (h : TJ g sh noP s) (hh : s.held = []) (ha : ∀ x, x < g.length → sh.getD x false = false → s.sn x ≠ 0) (v : Nat) (hv : v < g.length) :
    (sh.getD v false = false → 0 ≤ s.nm v ∧ IsNm g sh v (s.nm v)) ∧ (sh.getD v false = true → s.nm v = -1) := by
  constructor
  · intro ho
    have h1 := ha v hv ho
    have h2 : 0 ≤ s.nm v := by
      rcases Int.lt_or_le (s.nm v) 0 with h3 | h3
      · have := (h.hld v).2 ⟨h1, h3⟩; rw [hh] at this; cases this
      · exact h3
    exact ⟨h2, (h.nms v h2).2⟩
  · intro ho
    refine h.nmx v ?_
    rcases Int.lt_or_le (s.nm v) 0 with h3 | h3
    · exact h3
    · have := (h.opn v (h.nms v h3).1).2; rw [ho] at this; cases this
end Go.Am
end
section
namespace Go.Am
open Go Go.Proofs
set_option maxRecDepth 100000
set_option linter.unusedVariables false
set_option linter.unusedSimpArgs false
theorem sumR_one (n : Nat) : (sumR n fun _ => 1) = n := by
  induction n with
  | zero => rfl
  | succ n ih => rw [sumR_succ, ih]
theorem unS_first (g : List (List Int)) : unS g (s00 g.length) = g.length := by
  unfold unS
  have e : ∀ v, (s00 g.length).sn v = 0 := fun v => repl0 _ v
  simp only [e, if_true]
  exact sumR_one _
theorem NI_first (g : List (List Int)) (sh : List Bool) (hr : ∀ v k, k < (g.getD v []).length → ∃ w : Nat, (g.getD v []).getD k 0 = (w : Int) ∧ w < g.length) : NI g sh ⟨0, s00 g.length⟩ := by
  refine ⟨Nat.zero_le _, TJ.init g sh hr, rfl, rfl, ?_, fun x hx => absurd hx (Nat.not_lt_zero _)⟩
  show 0 + unS g (s00 g.length) = g.length
  rw [unS_first]; omega
def NmsOk (g : List (List Int)) (sh : List Bool) (l : List Int) : Prop := l.length = g.length ∧ ∀ v, v < g.length → (sh.getD v false = false → 0 ≤ l.getD v (-1) ∧ IsNm g sh v (l.getD v (-1))) ∧ (sh.getD v false = true → l.getD v (-1) = -1)
theorem names0_ok (g : List (List Int)) (sh : List Bool) (hrow : ∀ r ∈ g, r.length ≤ 2000000) (hc : cCheck_v g sh = some 0) :
    ACalls Try.prog 15 [.p (.sl (encG g)), .p (.sl (encT sh))] [] fun h d => ∃ l, NmsOk g sh l ∧ h = [(0, .arr 3 1 (encI l))] ∧ d = .tup [.ref 0 0 g.length g.length, .p (.int .i64 0)] := by
  have hr : ∀ v, v < g.length → (g.getD v []).length ≤ 2000000 := fun v hv => hrow _ (by rw [List.getD, List.getElem?_eq_getElem hv]; exact List.getElem_mem hv)
  obtain ⟨h1, h2, h3⟩ := check_rng hr hc
  refine ACalls.mono (names_ok g sh h1 (fun r hm => Nat.le_trans (hrow r hm) (by omega)) h2 hc (NI_first g sh h3)) ?_
  rintro h d ⟨s, ⟨hT, _, hh, ha⟩, rfl, rfl⟩
  exact ⟨s.names, ⟨hT.l4, fun v hv => hT.done hh ha v hv⟩, rfl, rfl⟩
theorem namesE_ok (g : List (List Int)) (sh : List Bool) (e : Int) (he : e ≠ 0) (hc : cCheck_v g sh = some e) :
    ACalls Try.prog 15 [.p (.sl (encG g)), .p (.sl (encT sh))] [] fun h d => h = [] ∧ d = .tup [.p (.sl []), .p (.int .i64 e)] := by
  refine ACalls_X Try.func15 rfl enters15 (by simp [Try.f15]) ?_
  simp only [go_sem]
  refine Cc_of ((cCheck_vok g sh e hc)) ?_
  rintro h' r ⟨rfl, rfl⟩
  have c1 : decide (e = 0) = false := decide_eq_false he
  simp only [go_sem, c1]
  all_goals (try refine end_pure ?_)
  all_goals (try simp only [go_sem, c1])
end Go.Am
end
section
namespace Go.Am
open Go Go.Proofs
set_option maxRecDepth 100000
set_option linter.unusedVariables false
set_option linter.unusedSimpArgs false
theorem names_row (g : List (List Int)) (sh : List Bool) (hrow : ∀ r ∈ g, r.length ≤ 2000000) (hc : cCheck_v g sh = some 0) :
    ACalls Try.prog 15 [.p (.sl (encG g)), .p (.sl (encT sh))] [] fun h d => ∃ l, NmsOk g sh l ∧ h = [] ∧ d = .tup [.p (.sl (encI l)), .p (.int .i64 0)] := by
  refine ACalls.seal (names0_ok g sh hrow hc) ?_
  rintro h d ⟨l, hl, rfl, rfl⟩
  have h1 := hl.1
  have h2 : (encI l).length = g.length := by rw [encI_len, h1]
  have h3 : (encI l).take g.length = encI l := by rw [← h2]; exact List.take_length
  refine borDR_all ?_
  simp only [go_sem, h2, h3, Rs.all, retD, List.map_cons, List.map_nil]
  exact ⟨l, hl, rfl⟩
end Go.Am
end
section
namespace Go.Am
open Go Go.Proofs
set_option maxRecDepth 100000
set_option linter.unusedVariables false
set_option linter.unusedSimpArgs false
theorem IsNm.uniq {g : List (List Int)} {sh : List Bool} {v : Nat} {x y : Int} (h : IsNm g sh v x) (k : IsNm g sh v y) : x = y := by
  obtain ⟨a, rfl, a1, a2, a3⟩ := h
  obtain ⟨b, rfl, b1, b2, b3⟩ := k
  have h1 := a3 b b1 b2
  have h2 := b3 a a1 a2
  omega
theorem NmsOk.uniq {g : List (List Int)} {sh : List Bool} {l m : List Int} (h : NmsOk g sh l) (k : NmsOk g sh m) : l = m := by
  apply List.ext_getElem (by rw [h.1, k.1])
  intro v hv hv2
  have hg : v < g.length := by rw [← h.1]; exact hv
  have e1 : l.getD v (-1) = l[v] := by simp [List.getD, hv]
  have e2 : m.getD v (-1) = m[v] := by simp [List.getD, hv2]
  have h1 := h.2 v hg
  have h2 := k.2 v hg
  rw [e1] at h1
  rw [e2] at h2
  cases c : sh.getD v false with
  | true => rw [h1.2 c, h2.2 c]
  | false => exact (h1.1 c).2.uniq (h2.1 c).2
noncomputable def namesV (g : List (List Int)) (sh : List Bool) : List Int := open Classical in if h : ∃ l, NmsOk g sh l then Classical.choose h else []
theorem namesV_eq {g : List (List Int)} {sh : List Bool} {l : List Int} (h : NmsOk g sh l) : namesV g sh = l := by
  unfold namesV
  rw [dif_pos ⟨l, h⟩]
  exact (Classical.choose_spec (⟨l, h⟩ : ∃ l, NmsOk g sh l)).uniq h
theorem IsNm.ex {g : List (List Int)} {sh : List Bool} (v : Nat) : ∃ x, IsNm g sh v x := by
  have key : ∀ n y, y ≤ n → Rch g sh v y → Rch g sh y v → ∃ x, IsNm g sh v x := by
    intro n
    induction n with
    | zero => intro y hy h1 h2; exact ⟨(y : Int), y, rfl, h1, h2, fun z _ _ => by omega⟩
    | succ n ih =>
      intro y hy h1 h2
      by_cases hz : ∃ z, z < y ∧ Rch g sh v z ∧ Rch g sh z v
      · obtain ⟨z, h3, h4, h5⟩ := hz
        exact ih z (by omega) h4 h5
      · refine ⟨(y : Int), y, rfl, h1, h2, fun z h3 h4 => ?_⟩
        rcases Nat.lt_or_ge z y with h5 | h5
        · exact absurd ⟨z, h5, h3, h4⟩ hz
        · exact h5
  exact key v v (Nat.le_refl _) (.refl v) (.refl v)
theorem rangeMap_getD {α : Type} (f : Nat → α) (n v : Nat) (hv : v < n) (d : α) : ((List.range n).map f).getD v d = f v := by simp [List.getD, hv]
theorem NmsOk.ex (g : List (List Int)) (sh : List Bool) : ∃ l, NmsOk g sh l := by
  refine ⟨(List.range g.length).map fun v => if sh.getD v false = true then -1 else Classical.choose (IsNm.ex (g := g) (sh := sh) v), by simp, fun v hv => ?_⟩
  rw [rangeMap_getD _ _ _ hv]
  have hs := Classical.choose_spec (IsNm.ex (g := g) (sh := sh) v)
  constructor
  · intro h
    rw [if_neg (by rw [h]; decide)]
    obtain ⟨y, hy, _⟩ := id hs
    exact ⟨by rw [hy]; omega, hs⟩
  · intro h
    rw [if_pos h]
theorem namesV_ok (g : List (List Int)) (sh : List Bool) : NmsOk g sh (namesV g sh) := by
  obtain ⟨l, h⟩ := NmsOk.ex g sh
  rw [namesV_eq h]; exact h
noncomputable def cNames_v (g : List (List Int)) (sh : List Bool) : Option (List Int × Int) :=
  if ∀ r ∈ g, r.length ≤ 2000000 then (cCheck_v g sh).map fun e => if e = 0 then (namesV g sh, 0) else ([], e) else none
theorem cNames_vok (g : List (List Int)) (sh : List Bool) (r : List Int × Int) (hr : cNames_v g sh = some r) :
    ACalls Try.prog 15 [.p (.sl (encG g)), .p (.sl (encT sh))] [] fun h d => h = [] ∧ d = .tup [.p (.sl (encI r.1)), .p (.int .i64 r.2)] := by
  unfold cNames_v at hr
  split at hr
  case isFalse => cases hr
  rename_i hrow
  cases hc : cCheck_v g sh with
  | none => rw [hc] at hr; cases hr
  | some e =>
    rw [hc] at hr
    simp only [Option.map_some, Option.some.injEq] at hr
    subst hr
    by_cases he : e = 0
    · subst he
      refine (names_row g sh hrow hc).mono ?_
      rintro h d ⟨l, hl, rfl, rfl⟩
      rw [if_pos rfl, namesV_eq hl]
      exact ⟨rfl, rfl⟩
    · rw [if_neg he]
      refine (namesE_ok g sh e he hc).mono ?_
      rintro h d ⟨rfl, rfl⟩
      exact ⟨rfl, rfl⟩
end Go.Am
end
section
namespace Go.Am
open Go Go.Proofs
set_option maxRecDepth 100000
set_option linter.unusedVariables false
set_option linter.unusedSimpArgs false
def dT (l : List Bool) : List D := l.map fun b => .p (.bool b)
def dI (l : List Int) : List D := l.map fun n => .p (.int .i64 n)
theorem dT_len (l : List Bool) : (dT l).length = l.length := by simp [dT]
theorem dI_len (l : List Int) : (dI l).length = l.length := by simp [dI]
theorem dT_ids (l : List Bool) : idsL (dT l) = [] := by
  induction l with
  | nil => rfl
  | cons b r ih => simpa [dT, idsL, D.ids] using ih
theorem dI_ids (l : List Int) : idsL (dI l) = [] := by
  induction l with
  | nil => rfl
  | cons b r ih => simpa [dI, idsL, D.ids] using ih
theorem z24T : [D.p (.bool false), .p (.bool false), .p (.bool false), .p (.bool false), .p (.bool false), .p (.bool false), .p (.bool false), .p (.bool false), .p (.bool false), .p (.bool false), .p (.bool false), .p (.bool false),
    .p (.bool false), .p (.bool false), .p (.bool false), .p (.bool false), .p (.bool false), .p (.bool false), .p (.bool false), .p (.bool false), .p (.bool false), .p (.bool false), .p (.bool false), .p (.bool false)] = dT (List.replicate 24 false) := rfl
def encW (l : List (List Int)) : List (List (List Pd)) := l.map encI
theorem encW_len (l : List (List Int)) : (encW l).length = l.length := by simp [encW]
theorem encW_setF (l : List (List Int)) (i : Nat) (r : List Int) : (encW l).set i (encI r) = encW (l.set i r) := by simp [encW, List.map_set]
theorem encW_repF (n : Nat) : List.replicate n ([] : List (List Pd)) = encW (List.replicate n []) := by simp [encW, encI]
theorem encW_sl (l : List (List Int)) : (encW l).map (fun r => [Pd.sl r]) = encG l := by simp [encW, encG]
theorem idxO_row {rows : List (List Int)} {i : Int} {x : List Int} (h : idxO rows i = some x) : (encW rows).getD i.toNat [] = encI x := by simp [encW, List.getD, (idxO_some h).2]
theorem idxO_row2 {rows : List (List Int)} {i : Int} {x : List Int} (h : idxO rows i = some x) : (encW rows)[i.toNat]?.getD [] = encI x := by simp [encW, (idxO_some h).2]
theorem idxO_row3 {rows : List (List Int)} {i : Int} {x : List Int} (h : idxO rows i = some x) (hx : i.toNat < (encW rows).length) : (encW rows)[i.toNat]'hx = encI x := by
  obtain ⟨h1, h2⟩ := List.getElem?_eq_some_iff.1 (idxO_some h).2
  simp [encW, h2]
theorem idxO_lt {α : Type} {l : List α} {i : Int} {x : α} (h : idxO l i = some x) : i.toNat < l.length := (List.getElem?_eq_some_iff.1 (idxO_some h).2).1
theorem encI_takeM (l : List Int) (n : Nat) : (encI l).take n = encI (l.take n) := by simp [encI]
def encSlT (l : List (List Bool)) : List (List Pd) := l.map fun r => [.sl (encT r)]
theorem encSlT_nil : encSlT [] = [] := rfl
theorem encSlT_consE (x : List Bool) (l : List (List Bool)) : encSlT (x :: l) = [.sl (encT x)] :: encSlT l := rfl
theorem encSlT_len2 (l : List (List Bool)) : (encSlT l).length = l.length := by simp [encSlT]
theorem encSlT_snocF (l : List (List Bool)) (x : List Bool) : encSlT l ++ [[.sl (encT x)]] = encSlT (l ++ [x]) := by simp [encSlT]
theorem encSlT_snocE (l : List (List Bool)) (x : List Bool) : encSlT (l ++ [x]) = encSlT l ++ [[.sl (encT x)]] := by simp [encSlT]
theorem encSlT_wid (l : List (List Bool)) : Wid 1 (encSlT l) := by simp [Wid, encSlT]
section
variable {P : Program} {st : St} {x : Code} {k : Kt}
theorem X_loopK {σ ε γ : Type} {step : σ → Option (σ ⊕ ε)} {s0 : σ} {e : ε} (hr : loopO step s0 = some e) (S : σ → γ → St) (c0 : γ) (hw : Wk st (S s0 c0))
    (hs : ∀ s c n, (step s).bind (nextO (iterO step n)) = some e → (∀ s' c' st', iterO step n s' = some e → Wk st' (S s' c') → L P x k n st') → X P x (.lp x n k) (S s c)) : X P (.loop x) k st := by
  obtain ⟨n, hn⟩ := loopO_iff.1 hr
  have key : ∀ n s c, iterO step n s = some e → L P x k n (S s c) := by
    intro n
    induction n with
    | zero => intro s c h; simp [iterO] at h
    | succ n ih => intro s c h; exact ⟨S s c, Wk.refl _, hs s c n h fun s' c' st' h' hw' => L_wk hw' (ih s' c' h')⟩
  exact X_loop _ (L_wk hw (key n s0 c0 hn))
end
attribute [go_sem] dT_len dI_len dT_ids dI_ids Nat.mul_one List.length_replicate
attribute [go_sem] encSlT_len2 encSlT_snocF
attribute [go_sem] encW_len encW_setF encW_repF encW_sl z24T
end Go.Am
end
section
namespace Go.Am
open Go Go.Proofs
set_option maxRecDepth 100000
set_option maxHeartbeats 2000000
set_option linter.unusedSimpArgs false
set_option linter.unusedVariables false
noncomputable def s_cmp_isNaN_v (a0 : Int) : Option (Bool) :=
  some (!decide (a0 = a0))
theorem s_cmp_isNaN_vok (a0 : Int) (r : Bool) (hr : s_cmp_isNaN_v a0 = some r) :
    ACalls Try.prog 128 [.p (.int .i64 a0)] [] fun h d => h = [] ∧ d = .p (.bool r) := by
  refine ACalls_X Try.func128 rfl enters128 (by simp [Try.f128]) ?_
  unfold s_cmp_isNaN_v at hr
  obtain rfl := Option.some.inj hr
  try simp only [go_sem]
  all_goals (try refine end_pure ?_)
  all_goals (try simp only [go_sem])
  all_goals (try (first | rfl | exact ⟨rfl, rfl⟩ | (simp; done)))
noncomputable def s_cmp_Less_v (a0 : Int) (a1 : Int) : Option (Bool) :=
  Option.bind (s_cmp_isNaN_v a0) fun x1 => cond x1 (Option.bind (s_cmp_isNaN_v a1) fun x4 => cond x4 (some (decide (a0 < a1))) (some true)) (some (decide (a0 < a1)))
theorem s_cmp_Less_vok (a0 : Int) (a1 : Int) (r : Bool) (hr : s_cmp_Less_v a0 a1 = some r) :
    ACalls Try.prog 105 [.p (.int .i64 a0), .p (.int .i64 a1)] [] fun h d => h = [] ∧ d = .p (.bool r) := by
  refine ACalls_X Try.func105 rfl enters105 (by simp [Try.f105]) ?_
  unfold s_cmp_Less_v at hr
  rcases g2 : s_cmp_isNaN_v a0 with _ | x1
  · simp only [g2, Option.bind_none, reduceCtorEq] at hr
  simp only [g2, Option.bind_some] at hr
  try simp only [go_sem]
  refine Cc_of (s_cmp_isNaN_vok a0 _ g2) ?_
  rintro h' r ⟨rfl, rfl⟩
  cases c3 : x1
  · simp only [c3, cond_false] at hr
    obtain rfl := Option.some.inj hr
    try simp only [go_sem, c3]
    all_goals (try refine end_pure ?_)
    all_goals (try simp only [go_sem, c3])
    all_goals (try (first | rfl | exact ⟨rfl, rfl⟩ | (simp; done)))
  simp only [c3, cond_true] at hr
  rcases g5 : s_cmp_isNaN_v a1 with _ | x4
  · simp only [g5, Option.bind_none, reduceCtorEq] at hr
  simp only [g5, Option.bind_some] at hr
  try simp only [go_sem, c3]
  refine Cc_of (s_cmp_isNaN_vok a1 _ g5) ?_
  rintro h' r ⟨rfl, rfl⟩
  cases c6 : x4
  · simp only [c6, cond_false] at hr
    obtain rfl := Option.some.inj hr
    try simp only [go_sem, c3, c6]
    all_goals (try refine end_pure ?_)
    all_goals (try simp only [go_sem, c3, c6])
    all_goals (try (first | rfl | exact ⟨rfl, rfl⟩ | (simp; done)))
  simp only [c6, cond_true] at hr
  obtain rfl := Option.some.inj hr
  try simp only [go_sem, c3, c6]
  all_goals (try refine end_pure ?_)
  all_goals (try simp only [go_sem, c3, c6])
  all_goals (try (first | rfl | exact ⟨rfl, rfl⟩ | (simp; done)))
noncomputable def isort_L1 (a1 : Int) : (List Int) × Int → Option (((List Int) × Int) ⊕ (((List Int) × Int)))
  | (v13, v14) => cond (decide (a1 < v14)) (Option.bind (idxO v13 v14) fun x21 => Option.bind (idxO v13 (IntKind.i64.wrap (v14 - 1))) fun x25 => Option.bind (s_cmp_Less_v x21 x25) fun x29 => cond x29 (Option.bind (idxO (v13.set (Int.toNat v14) x25) (IntKind.i64.wrap (v14 - 1))) fun x32 => some (Sum.inl (((v13.set (Int.toNat v14) x25).set (Int.toNat (IntKind.i64.wrap (v14 - 1))) x21), (IntKind.i64.wrap (v14 - 1))))) (some (Sum.inr (v13, v14)))) (some (Sum.inr (v13, v14)))
theorem isort_L1_eq (a1 : Int) (v13 : List Int) (v14 : Int) : isort_L1 a1 (v13, v14) = cond (decide (a1 < v14)) (Option.bind (idxO v13 v14) fun x21 => Option.bind (idxO v13 (IntKind.i64.wrap (v14 - 1))) fun x25 => Option.bind (s_cmp_Less_v x21 x25) fun x29 => cond x29 (Option.bind (idxO (v13.set (Int.toNat v14) x25) (IntKind.i64.wrap (v14 - 1))) fun x32 => some (Sum.inl (((v13.set (Int.toNat v14) x25).set (Int.toNat (IntKind.i64.wrap (v14 - 1))) x21), (IntKind.i64.wrap (v14 - 1))))) (some (Sum.inr (v13, v14)))) (some (Sum.inr (v13, v14))) := rfl
noncomputable def isort_L2 (a1 : Int) (a2 : Int) : (List Int) × Int → Option (((List Int) × Int) ⊕ (((List Int) × Int)))
  | (v3, v4) => cond (decide (v4 < a2)) (Option.bind (loopO (isort_L1 a1) (v3, v4)) (fun (v36, v37) => some (Sum.inl (v36, (IntKind.i64.wrap (v4 + 1)))))) (some (Sum.inr (v3, v4)))
theorem isort_L2_eq (a1 : Int) (a2 : Int) (v3 : List Int) (v4 : Int) : isort_L2 a1 a2 (v3, v4) = cond (decide (v4 < a2)) (Option.bind (loopO (isort_L1 a1) (v3, v4)) (fun (v36, v37) => some (Sum.inl (v36, (IntKind.i64.wrap (v4 + 1)))))) (some (Sum.inr (v3, v4))) := rfl
noncomputable def isort_v (a0 : List Int) (a1 : Int) (a2 : Int) : Option ((List Int)) :=
  Option.bind (loopO (isort_L2 a1 a2) (a0, (IntKind.i64.wrap (a1 + 1)))) (fun (v38, v39) => some v38)
theorem isort_vok (a0 : List Int) (a1 : Int) (a2 : Int) (r : (List Int)) (hr : isort_v a0 a1 a2 = some r) :
    ACalls Try.prog 99 [.ref 1000000 0 a0.length a0.length, .p (.int .i64 a1), .p (.int .i64 a2)] [(1000000, .arr 3 1 (encI a0))] fun h d => h = [(1000000, .arr 3 1 (encI r))] ∧ d = .tup [] := by
  refine ACalls_X Try.func99 rfl enters99 (by simp [Try.f99]) ?_
  unfold isort_v at hr
  rcases g9 : loopO (isort_L2 a1 a2) (a0, (IntKind.i64.wrap (a1 + 1))) with _ | e8
  · simp only [g9, Option.bind_none, reduceCtorEq] at hr
  simp only [g9, Option.bind_some] at hr
  try simp only [go_sem]
  refine X_loopO g9 (fun q : (List Int) × Int => ⟨[(0, .ref 1000000 0 q.1.length q.1.length), (1, .p (.int .i64 a1)), (2, .p (.int .i64 a2)), (6, .p (.int .i64 q.2))], [(1000000, .arr 3 1 (encI q.1))], 49⟩) ((Wk.forget (by simp [Le, LeE, LeH, get, envIds, hpIds, KeepH, D.ids, idsL, AO.ids, setL, base, encI_nil, encS_nil, encT_nil, encG_nil, encC_nil, encL_nil, encK_nil, encP_nil, mpS_nil, mpB_nil, encI_consE, encS_consE, encT_consE, encG_consE, encI_one, encS_one, encT_one, encI_snoc, encS_snoc, encT_snocE, encG_snocE, encC_snoc, encL_snoc, encK_snocE, encP_snocE, encI_set, encS_set, encT_setE, encG_setE, encC_setE, encK_setE, encP_setE, encI_len, encS_len, encT_len2, encG_len2, encC_len, encL_len, encK_len2, encP_len2]))) ?_
  rintro ⟨v3, v4⟩ m7 hh5 ih6
  rw [isort_L2_eq] at hh5
  cases c10 : decide (v4 < a2)
  · simp only [c10, cond_false] at hh5
    simp only [Option.bind_some, nextO_inr] at hh5
    obtain rfl := Option.some.inj hh5
    try dsimp only at hr
    obtain rfl := Option.some.inj hr
    try simp only [go_sem, c10]
    all_goals (try refine end_own ?_)
    all_goals (try simp only [go_sem, c10])
    all_goals (try (first | rfl | exact ⟨rfl, rfl⟩ | (simp; done)))
  simp only [c10, cond_true] at hh5
  rcases g19 : loopO (isort_L1 a1) (v3, v4) with _ | e18
  · simp only [g19, Option.bind_none, reduceCtorEq] at hh5
  simp only [g19, Option.bind_some] at hh5
  try simp only [go_sem, c10]
  refine X_loopO g19 (fun q : (List Int) × Int => ⟨[(0, .ref 1000000 0 q.1.length q.1.length), (1, .p (.int .i64 a1)), (2, .p (.int .i64 a2)), (6, .p (.int .i64 v4)), (7, .p (.int .i64 q.2))], [(1000000, .arr 3 1 (encI q.1))], 49⟩) ((Wk.forget (by simp [Le, LeE, LeH, get, envIds, hpIds, KeepH, D.ids, idsL, AO.ids, setL, base, encI_nil, encS_nil, encT_nil, encG_nil, encC_nil, encL_nil, encK_nil, encP_nil, mpS_nil, mpB_nil, encI_consE, encS_consE, encT_consE, encG_consE, encI_one, encS_one, encT_one, encI_snoc, encS_snoc, encT_snocE, encG_snocE, encC_snoc, encL_snoc, encK_snocE, encP_snocE, encI_set, encS_set, encT_setE, encG_setE, encC_setE, encK_setE, encP_setE, encI_len, encS_len, encT_len2, encG_len2, encC_len, encL_len, encK_len2, encP_len2]))) ?_
  rintro ⟨v13, v14⟩ m17 hh15 ih16
  rw [isort_L1_eq] at hh15
  try simp only [go_sem, c10]
  refine X_any0 mixed (p := [(0, 0), (1, 0), (2, 0), (3, 0), (4, 0), (5, 0), (6, 0), (7, 0), (8, 0), (9, 0), (10, 0), (11, 0), (12, 0), (13, 2), (14, 0)]) (by kernel_rfl) (by simp [LeH, get]) ?_
  cases c20 : decide (a1 < v14)
  · simp only [c20, cond_false] at hh15
    simp only [Option.bind_some, nextO_inr] at hh15
    obtain rfl := Option.some.inj hh15
    try dsimp only at hh5
    simp only [Option.bind_some, nextO_inl] at hh5
    try simp only [go_sem, c10, c20]
    exact ih6 (v13, (IntKind.i64.wrap (v4 + 1))) _ hh5 ((Wk.forget (by simp [Le, LeE, LeH, get, envIds, hpIds, KeepH, D.ids, idsL, AO.ids, setL, base, encI_nil, encS_nil, encT_nil, encG_nil, encC_nil, encL_nil, encK_nil, encP_nil, mpS_nil, mpB_nil, encI_consE, encS_consE, encT_consE, encG_consE, encI_one, encS_one, encT_one, encI_snoc, encS_snoc, encT_snocE, encG_snocE, encC_snoc, encL_snoc, encK_snocE, encP_snocE, encI_set, encS_set, encT_setE, encG_setE, encC_setE, encK_setE, encP_setE, encI_len, encS_len, encT_len2, encG_len2, encC_len, encL_len, encK_len2, encP_len2])))
  simp only [c20, cond_true] at hh15
  rcases g22 : idxO v13 v14 with _ | x21
  · simp only [g22, Option.bind_none, reduceCtorEq] at hh15
  simp only [g22, Option.bind_some] at hh15
  have f23 := idxO_rng g22
  have f24 : (encI v13).getD (Int.toNat v14) [] = [(.int .i64 x21)] := idxO_map _ g22
  rcases g26 : idxO v13 (IntKind.i64.wrap (v14 - 1)) with _ | x25
  · simp only [g26, Option.bind_none, reduceCtorEq] at hh15
  simp only [g26, Option.bind_some] at hh15
  have f27 := idxO_rng g26
  have f28 : (encI v13).getD (Int.toNat (IntKind.i64.wrap (v14 - 1))) [] = [(.int .i64 x25)] := idxO_map _ g26
  rcases g30 : s_cmp_Less_v x21 x25 with _ | x29
  · simp only [g30, Option.bind_none, reduceCtorEq] at hh15
  simp only [g30, Option.bind_some] at hh15
  try simp only [go_sem, c10, c20, f23, f24, f27, f28]
  refine Gh_of (s_cmp_Less_vok x21 x25 _ g30) ?_
  rintro h' r ⟨rfl, rfl⟩
  cases c31 : x29
  · simp only [c31, cond_false] at hh15
    simp only [Option.bind_some, nextO_inr] at hh15
    obtain rfl := Option.some.inj hh15
    try dsimp only at hh5
    simp only [Option.bind_some, nextO_inl] at hh5
    try simp only [go_sem, c10, c20, f23, f24, f27, f28, c31]
    exact ih6 (v13, (IntKind.i64.wrap (v4 + 1))) _ hh5 ((Wk.forget (by simp [Le, LeE, LeH, get, envIds, hpIds, KeepH, D.ids, idsL, AO.ids, setL, base, encI_nil, encS_nil, encT_nil, encG_nil, encC_nil, encL_nil, encK_nil, encP_nil, mpS_nil, mpB_nil, encI_consE, encS_consE, encT_consE, encG_consE, encI_one, encS_one, encT_one, encI_snoc, encS_snoc, encT_snocE, encG_snocE, encC_snoc, encL_snoc, encK_snocE, encP_snocE, encI_set, encS_set, encT_setE, encG_setE, encC_setE, encK_setE, encP_setE, encI_len, encS_len, encT_len2, encG_len2, encC_len, encL_len, encK_len2, encP_len2, c31])))
  simp only [c31, cond_true] at hh15
  try simp only [go_sem, c10, c20, f23, f24, f27, f28, c31]
  refine X_any0 mixed (p := [(0, 0), (1, 0), (2, 0), (3, 0), (4, 0), (5, 0), (6, 0), (7, 0), (8, 0), (9, 0), (10, 0), (11, 0), (12, 0), (13, 0), (14, 0), (15, 4), (16, 4), (17, 4)]) (by kernel_rfl) (by simp [LeH, get]) ?_
  rcases g33 : idxO (v13.set (Int.toNat v14) x25) (IntKind.i64.wrap (v14 - 1)) with _ | x32
  · simp only [g33, Option.bind_none, reduceCtorEq] at hh15
  simp only [g33, Option.bind_some] at hh15
  have f34 := idxO_rng g33
  have f35 : (encI (v13.set (Int.toNat v14) x25)).getD (Int.toNat (IntKind.i64.wrap (v14 - 1))) [] = [(.int .i64 x32)] := idxO_map _ g33
  simp only [Option.bind_some, nextO_inl] at hh15
  try simp only [go_sem, c10, c20, f23, f24, f27, f28, c31, f34, f35]
  exact ih16 (((v13.set (Int.toNat v14) x25).set (Int.toNat (IntKind.i64.wrap (v14 - 1))) x21), (IntKind.i64.wrap (v14 - 1))) _ hh15 ((Wk.forget (by simp [Le, LeE, LeH, get, envIds, hpIds, KeepH, D.ids, idsL, AO.ids, setL, base, encI_nil, encS_nil, encT_nil, encG_nil, encC_nil, encL_nil, encK_nil, encP_nil, mpS_nil, mpB_nil, encI_consE, encS_consE, encT_consE, encG_consE, encI_one, encS_one, encT_one, encI_snoc, encS_snoc, encT_snocE, encG_snocE, encC_snoc, encL_snoc, encK_snocE, encP_snocE, encI_set, encS_set, encT_setE, encG_setE, encC_setE, encK_setE, encP_setE, encI_len, encS_len, encT_len2, encG_len2, encC_len, encL_len, encK_len2, encP_len2, c31])))
end Go.Am
end
section
namespace Go.Am
open Go Go.Proofs
set_option maxRecDepth 100000
set_option linter.unusedVariables false
set_option linter.unusedSimpArgs false
def insS : List Int → Int → List Int
  | [], x => [x]
  | y :: r, x => if x < y then x :: y :: r else y :: insS r x
def sortV (l : List Int) : List Int := l.foldl insS []
theorem insS_len (l : List Int) (x : Int) : (insS l x).length = l.length + 1 := by
  induction l with
  | nil => rfl
  | cons y r ih => simp only [insS]; split <;> simp [ih]
theorem foldl_insS_len (l p : List Int) : (l.foldl insS p).length = p.length + l.length := by
  induction l generalizing p with
  | nil => simp
  | cons x r ih => simp only [List.foldl_cons, ih, insS_len, List.length_cons]; omega
theorem sortV_len (l : List Int) : (sortV l).length = l.length := by simp [sortV, foldl_insS_len]
theorem insS_mem (l : List Int) (x y : Int) : y ∈ insS l x ↔ y = x ∨ y ∈ l := by
  induction l with
  | nil => simp [insS]
  | cons z r ih =>
    simp only [insS]
    split
    · simp
    · simp only [List.mem_cons, ih]
      constructor
      · rintro (h | h | h) <;> simp [h]
      · rintro (h | h | h) <;> simp [h]
theorem insS_sorted (l : List Int) (x : Int) (h : l.Pairwise (· ≤ ·)) : (insS l x).Pairwise (· ≤ ·) := by
  induction l with
  | nil => simp [insS]
  | cons y r ih =>
    obtain ⟨h1, h2⟩ := List.pairwise_cons.1 h
    simp only [insS]
    split
    · refine List.pairwise_cons.2 ⟨fun z hz => ?_, h⟩
      rcases List.mem_cons.1 hz with rfl | hz
      · omega
      · have := h1 z hz; omega
    · refine List.pairwise_cons.2 ⟨fun z hz => ?_, ih h2⟩
      rcases (insS_mem r x z).1 hz with rfl | hz
      · omega
      · exact h1 z hz
theorem insS_snoc_lt (p : List Int) (y x : Int) (h : x < y) : insS (p ++ [y]) x = insS p x ++ [y] := by
  induction p with
  | nil => simp [insS, h]
  | cons z r ih =>
    simp only [List.cons_append, insS]
    split
    · rfl
    · rw [ih]; rfl
theorem insS_snoc_ge (p : List Int) (y x : Int) (hs : (p ++ [y]).Pairwise (· ≤ ·)) (h : ¬ x < y) : insS (p ++ [y]) x = p ++ [y, x] := by
  induction p with
  | nil => simp [insS, h]
  | cons z r ih =>
    simp only [List.cons_append, List.pairwise_cons] at hs
    have := hs.1 y (by simp)
    simp only [List.cons_append, insS]
    rw [if_neg (by omega), ih hs.2]
theorem set_mid {α : Type} (p q : List α) (x y : α) : (p ++ x :: q).set p.length y = p ++ y :: q := by
  induction p with
  | nil => rfl
  | cons z r ih => simp [ih]
theorem less_v (a b : Int) : s_cmp_Less_v a b = some (decide (a < b)) := by
  unfold s_cmp_Less_v s_cmp_isNaN_v
  simp
theorem isort_in (l : List Int) : ∀ (n : Nat) (p : List Int) (x : Int) (q : List Int), p.length = n → p.Pairwise (· ≤ ·) → n < 10000000 → ∃ j, loopO (isort_L1 0) (p ++ x :: q, (n : Int)) = some (insS p x ++ q, j)
  | 0, p, x, q, hp, _, _ => by
    obtain rfl : p = [] := List.eq_nil_of_length_eq_zero hp
    refine ⟨0, ?_⟩
    rw [loopO_step, isort_L1_eq]
    simp [insS, nextO]
  | n + 1, p, x, q, hp, hs, hn => by
    obtain ⟨r, y, rfl⟩ : ∃ r y, p = r ++ [y] := by
      rcases List.eq_nil_or_concat p with h | ⟨r, y, h⟩
      · subst h; simp at hp
      · exact ⟨r, y, by simpa using h⟩
    have hr : r.length = n := by simpa using hp
    have hw : IntKind.i64.wrap (((n + 1 : Nat) : Int) - 1) = (n : Int) := by rw [IntKind.wrap_i64]; omega
    have i1 : idxO ((r ++ [y]) ++ x :: q) ((n + 1 : Nat) : Int) = some x := by
      rw [idxO_nat]; simp [← hr, List.getElem?_append]
    have i2 : idxO ((r ++ [y]) ++ x :: q) (n : Int) = some y := by
      rw [idxO_nat]; simp [← hr, List.getElem?_append]
    have s1 : ((r ++ [y]) ++ x :: q).set (n + 1) y = r ++ y :: y :: q := by
      have := set_mid (r ++ [y]) q x y
      rw [show (r ++ [y]).length = n + 1 by simp [hr]] at this
      rw [this]; simp
    have i3 : idxO (((r ++ [y]) ++ x :: q).set (n + 1) y) (n : Int) = some y := by
      rw [s1, idxO_nat]; simp [← hr, List.getElem?_append]
    have s2 : (((r ++ [y]) ++ x :: q).set (n + 1) y).set n x = r ++ x :: (y :: q) := by
      rw [s1, ← hr]; exact set_mid r (y :: q) y x
    rw [loopO_step, isort_L1_eq]
    have c1 : decide ((0 : Int) < ((n + 1 : Nat) : Int)) = true := decide_eq_true (by omega)
    rw [c1, cond_true, i1, Option.bind_some, hw, i2, Option.bind_some, less_v, Option.bind_some]
    by_cases hxy : x < y
    · have c2 : decide (x < y) = true := by simpa using hxy
      rw [c2, cond_true, show Int.toNat ((n + 1 : Nat) : Int) = n + 1 from rfl, i3, Option.bind_some, Option.bind_some, nextO_inl, show Int.toNat (n : Int) = n from rfl, s2]
      have hs2 : r.Pairwise (· ≤ ·) := (List.pairwise_append.1 hs).1
      obtain ⟨j, hj⟩ := isort_in l n r x (y :: q) hr hs2 (by omega)
      refine ⟨j, ?_⟩
      rw [hj, insS_snoc_lt _ _ _ hxy]
      simp
    · have c2 : decide (x < y) = false := by simpa using hxy
      rw [c2, cond_false, Option.bind_some, nextO_inr]
      refine ⟨((n + 1 : Nat) : Int), ?_⟩
      rw [insS_snoc_ge _ _ _ hs hxy]
      simp
theorem isort_out : ∀ (q p : List Int), p.Pairwise (· ≤ ·) → p.length + q.length < 10000000 → ∃ j, loopO (isort_L2 0 ((p.length + q.length : Nat) : Int)) (p ++ q, (p.length : Int)) = some (q.foldl insS p, j)
  | [], p, hs, hn => by
    rw [loopO_step, isort_L2_eq]
    simp [nextO]
  | x :: q, p, hs, hn => by
    have hl : p.length + (x :: q).length = (insS p x).length + q.length := by rw [insS_len]; simp; omega
    rw [loopO_step, isort_L2_eq]
    have c1 : decide ((p.length : Int) < ((p.length + (x :: q).length : Nat) : Int)) = true := decide_eq_true (by simp only [List.length_cons]; omega)
    obtain ⟨j, hj⟩ := isort_in [] p.length p x q rfl hs (by simp at hn; omega)
    have hw : IntKind.i64.wrap ((p.length : Int) + 1) = ((insS p x).length : Int) := by rw [IntKind.wrap_i64, insS_len]; simp at hn; omega
    rw [c1, cond_true, hj, Option.bind_some, Option.bind_some, nextO_inl, hw, hl]
    obtain ⟨j2, hj2⟩ := isort_out q (insS p x) (insS_sorted p x hs) (by rw [insS_len]; simp at hn; omega)
    exact ⟨j2, by rw [hj2]; rfl⟩
theorem isort_short (l : List Int) (hl : l.length < 10000000) : isort_v l 0 (l.length : Int) = some (sortV l) := by
  unfold isort_v
  cases l with
  | nil =>
    rw [loopO_step, isort_L2_eq]
    simp [nextO, sortV, IntKind.wrap_i64]
  | cons x r =>
    have hw : IntKind.i64.wrap (0 + 1) = (([x] : List Int).length : Int) := by rw [IntKind.wrap_i64]; simp
    obtain ⟨j, hj⟩ := isort_out r [x] (by simp) (by simp at hl ⊢; omega)
    rw [hw, show ((x :: r).length : Int) = (([x] : List Int).length + r.length : Nat) by simp; omega, show x :: r = [x] ++ r from rfl, hj]
    rfl
end Go.Am
end
section
namespace Go.Am
open Go Go.Proofs
set_option maxRecDepth 100000
set_option linter.unusedVariables false
set_option linter.unusedSimpArgs false
set_option maxHeartbeats 1000000
theorem len64_ok (n : Nat) (hn : n ≤ 12) : ACalls Try.prog 109 [.p (.int .u64 n)] [] fun h r => h = [] ∧ ∃ m : Int, r = .p (.int .i64 m) := by
  have c1 : decide ((4294967296 : Int) ≤ (n : Int)) = false := by simp; omega
  have c2 : decide ((65536 : Int) ≤ (n : Int)) = false := by simp; omega
  have c3 : decide ((256 : Int) ≤ (n : Int)) = false := by simp; omega
  have w1 : IntKind.u8.wrap (n : Int) = (n : Int) := by simp only [IntKind.wrap, IntKind.signed, IntKind.bits]; first | omega | (simp; omega)
  have r1 : (0 : Int) ≤ (n : Int) ∧ (n : Int) < 256 := by omega
  refine ACalls_X Try.func109 rfl enters109 (by simp [Try.f109]) ?_
  simp only [go_sem, c1, c2, c3, w1]
  refine ⟨by simp; omega, ?_⟩
  exact ⟨_, rfl⟩
theorem len_ok (n : Nat) (hn : n ≤ 12) : ACalls Try.prog 77 [.p (.int .u64 n)] [] fun h r => h = [] ∧ ∃ m : Int, r = .p (.int .i64 m) := by
  refine ACalls_X Try.func77 rfl enters77 (by simp [Try.f77]) ?_
  simp only [go_sem]
  refine Cc_of (len64_ok n hn) ?_
  rintro h' r ⟨rfl, m, rfl⟩
  simp only [go_sem]
  exact ⟨m, rfl⟩
theorem pdq_short (l : List Int) (hl : l.length ≤ 12) (m : Int) : ACalls Try.prog 76 [.ref 1000000 0 l.length l.length, .p (.int .i64 0), .p (.int .i64 l.length), .p (.int .i64 m)] [(1000000, .arr 3 1 (encI l))]
    fun h r => h = [(1000000, .arr 3 1 (encI (sortV l)))] ∧ r = .tup [] := by
  have w1 : IntKind.i64.wrap ((l.length : Int) - 0) = (l.length : Int) := by rw [IntKind.wrap_i64]; omega
  have c1 : decide ((l.length : Int) ≤ 12) = true := by simp; omega
  refine ACalls_X Try.func76 rfl enters76 (by simp [Try.f76]) ?_
  simp only [go_sem]
  refine X_loop 1 ?_
  rw [L_succ]
  refine ⟨_, Wk.refl _, ?_⟩
  simp only [go_sem, w1, c1, encI_len]
  refine Cc_own rfl rfl ?_
  simp only [go_sem, callD_eq]
  refine Kc_of (isort_vok l 0 l.length _ (isort_short l (by omega))) ?_
  rintro h' r ⟨rfl, rfl⟩
  simp only [go_sem]
  all_goals (try refine end_own ?_)
  all_goals (try simp only [go_sem])
theorem sort_own (l : List Int) (hl : l.length ≤ 12) : ACalls Try.prog 49 [.ref 1000000 0 l.length l.length] [(1000000, .arr 3 1 (encI l))] fun h r => h = [(1000000, .arr 3 1 (encI (sortV l)))] ∧ r = .tup [] := by
  have w1 : IntKind.u64.wrap (l.length : Int) = (l.length : Int) := by simp only [IntKind.wrap, IntKind.signed, IntKind.bits]; first | omega | (simp; omega)
  refine ACalls_X Try.func49 rfl enters49 (by simp [Try.f49]) ?_
  simp only [go_sem, encI_len, w1]
  refine Cc_of (len_ok l.length hl) ?_
  rintro h' r ⟨rfl, m, rfl⟩
  simp only [go_sem, encI_len]
  refine Cc_own rfl rfl ?_
  simp only [go_sem, callD_eq]
  refine Kc_of (pdq_short l hl m) ?_
  rintro h' r ⟨rfl, rfl⟩
  simp only [go_sem]
  all_goals (try refine end_own ?_)
  all_goals (try simp only [go_sem])
end Go.Am
end
section
namespace Go.Am
open Go Go.Proofs Go.Sort
set_option maxRecDepth 100000
set_option linter.unusedVariables false
set_option linter.unusedSimpArgs false
abbrev leI : Int → Int → Bool := fun x y => decide (x ≤ y)
theorem ACalls_sort {P : Program} {f T : Nat} (hent : Enters P f)
    (hc : ∀ (blk off cap : Nat) (zs : List Int) (w : World), Holds (Value.int .i64) w blk off zs.toArray → blk < w.heap.size → zs.length < 4611686018427387904 →
      Calls P f #[.slice (some ⟨blk, off, none⟩) zs.length cap] w fun e w' => e = .returned (.tuple #[]) ∧ ∃ n os, w' = grow (putRow (Value.int .i64) (Sort.ahead w n) blk off (zs.mergeSort fun x y => decide (x ≤ y)).toArray) os)
    (l : List Int) (h0 : 0 < l.length) (h63 : l.length < 4611686018427387904) :
    ACalls P f [.ref base 0 l.length l.length] [(base, .arr T 1 (encI l))] fun h r => h = [(base, .arr T 1 (encI (l.mergeSort leI)))] ∧ r = .tup [] := by
  intro vs w F M hHR hFl hsb hd
  obtain ⟨v, rfl, hv⟩ := drl_one hd
  have hg : get [(base, AO.arr T 1 (encI l))] base = some (.arr T 1 (encI l)) := rfl
  obtain ⟨h1, h2, h3, h4, h5⟩ := hHR.obj base _ hg
  rw [encI_len] at h2
  cases hv with
  | ref _ _ _ _ sz n _ hs hN hva hre =>
    have hs' : some (Sg.arr 1 (encI l).length) = some (.arr sz n) := hs
    cases hs'
    obtain ⟨ad, cap, rfl, g1, g2, g3, g4⟩ := hre (by rw [encI_len])
    obtain rfl := g4.resolve_left (by omega)
    obtain ⟨hnF, row, hrow, hsz, hcells⟩ := h5 (by omega)
    have hcell : ∀ j (hj : j < l.length), row[j]? = some (.int .i64 l[j]) := by
      intro j hj
      have h6 := hcells j [.int .i64 l[j]] 0 (.int .i64 l[j]) (by simp [encI, hj]) rfl
      have hlt : j < row.size := by rw [hsz]; omega
      rw [Nat.mul_one, Nat.add_zero] at h6
      rw [Array.getD_eq_getD_getElem?, Array.getElem?_eq_getElem hlt, Option.getD_some] at h6
      rw [Array.getElem?_eq_getElem hlt]
      generalize row[j] = x at h6
      cases h6
      rfl
    have hH : Holds (Value.int .i64) w (M base).blk (0 * 1) l.toArray := by
      intro j hj
      have hj' : j < l.length := by simpa using hj
      constructor
      · have : (l.toArray[j]! : Int) = l[j] := by simp [hj']
        rw [this, Nat.zero_mul, Nat.zero_add]
        simp [World.cell?, hrow, hcell j hj']
      · simp [World.frozen?, hrow]
    have hlt : (M base).blk < w.heap.size := (Array.getElem?_eq_some_iff.1 hrow).1
    refine .inl ⟨hent _ w, (hc (M base).blk (0 * 1) cap l w hH hlt h63).mono ?_⟩
    rintro e w' ⟨rfl, n, os, rfl⟩
    have hml : (l.mergeSort leI).length = l.length := List.length_mergeSort l
    have hsg : sg [(base, AO.arr T 1 (encI (l.mergeSort leI)))] = sg [(base, AO.arr T 1 (encI l))] := by
      funext id
      simp only [sg, get]
      split
      · simp [AO.sg, encI_len, hml]
      · rfl
    have hother : ∀ b, b < w.heap.size → b ≠ (M base).blk → (grow (putRow (Value.int .i64) (Sort.ahead w n) (M base).blk (0 * 1) (l.mergeSort leI).toArray) os).heap[b]? = w.heap[b]? := by
      intro b hb hne
      simp only [grow, putRow, mapBlock, heap_ahead]
      rw [Array.getElem?_append_left (by simpa using hb), Array.getElem?_modify, if_neg (Ne.symm hne)]
    have hmine : (grow (putRow (Value.int .i64) (Sort.ahead w n) (M base).blk (0 * 1) (l.mergeSort leI).toArray) os).heap[(M base).blk]? = some (.cells (putCells (Value.int .i64) (0 * 1) (l.mergeSort leI).toArray row) T (0, 0)) := by
      simp only [grow, putRow, mapBlock, heap_ahead]
      rw [Array.getElem?_append_left (by simpa using hlt), Array.getElem?_modify, if_pos rfl, hrow]
      rfl
    have hr0 := Rel.start (args := []) (vs := #[]) (n := 0) hHR hFl hsb ⟨rfl, fun i d hd => by simp at hd⟩ (Nat.zero_le _)
    have hr1 := hr0.change (M' := M) (id := base) (o' := .arr T 1 (encI (l.mergeSort leI))) (hp' := [(base, .arr T 1 (encI (l.mergeSort leI)))]) (w' := grow (putRow (Value.int .i64) (Sort.ahead w n) (M base).blk (0 * 1) (l.mergeSort leI).toArray) os)
      (fun j => by
        show (if base = j then some (AO.arr T 1 (encI (l.mergeSort leI))) else none) = if j = base then some (AO.arr T 1 (encI (l.mergeSort leI))) else (if base = j then some (AO.arr T 1 (encI l)) else none)
        by_cases e : base = j
        · rw [if_pos e, if_pos e.symm]
        · rw [if_neg e, if_neg (Ne.symm e), if_neg e]) (fun _ _ => rfl) (by rw [hsg]; exact SgKeep.refl _ _) rfl rfl rfl (by simp [grow])
      (fun b hb hno => hother b hb (fun e => hno _ hg ⟨by omega, e⟩)) ?_ (fun b hb => .inl ⟨_, hg, hb⟩)
    · exact ⟨_, _, .tup [], F, M, rfl, ⟨rfl, rfl⟩, hr1.heap, .tup [] #[] rfl (fun i d hd => by simp at hd), hr1.keep⟩
    · refine ⟨h1, by rw [encI_len, hml]; exact h2, h3, fun i e he => ?_, fun _ => ⟨hnF, _, hmine, by simp [putCells, hsz], fun i e j c he hc => ?_⟩⟩
      · simp only [encI, List.getElem?_map, Option.map_eq_some_iff] at he
        obtain ⟨x, _, rfl⟩ := he
        rfl
      · simp only [encI, List.getElem?_map, Option.map_eq_some_iff] at he
        obtain ⟨x, hx, rfl⟩ := he
        cases j with
        | succ j => simp at hc
        | zero =>
          simp only [List.getElem?_cons_zero, Option.some.injEq] at hc
          subst hc
          obtain ⟨hi, rfl⟩ := List.getElem?_eq_some_iff.1 hx
          have hir : i < row.size := by rw [hsz]; omega
          have : (putCells (Value.int .i64) (0 * 1) (l.mergeSort leI).toArray row).getD (i * 1 + 0) undef = .int .i64 (l.mergeSort leI)[i] := by
            rw [Array.getD_eq_getD_getElem?, show i * 1 + 0 = i by omega, show 0 * 1 = 0 from rfl]
            unfold putCells
            rw [Array.getElem?_mapIdx, Array.getElem?_eq_getElem hir, Option.map_some, Option.getD_some, if_pos ⟨Nat.zero_le _, by simpa using hi⟩, Nat.sub_zero]
            rw [getElem!_pos _ i (by simpa using hi)]
            rfl
          rw [this]
          exact .int _ _
end Go.Am
end

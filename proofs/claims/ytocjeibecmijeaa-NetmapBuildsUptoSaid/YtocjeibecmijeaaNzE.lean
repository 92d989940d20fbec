/- Texts of this proof, what it rests on, merged: part E. -/
import Derived.Test.YtocjeibecmijeaaProg
import Derived.KernelRfl
import Derived.Test.YtocjeibecmijeaaNzD
section
namespace Go.Am
open Go Go.Proofs
set_option maxRecDepth 100000
theorem ti2 : tiOf Try.prog 2 = some ⟨1, 8, .int .i64, .p (.int .i64 0)⟩ := by kernel_rfl
theorem ti3 : tiOf Try.prog 3 = some ⟨1, 8, .int .i64, .p (.int .i64 0)⟩ := by kernel_rfl
theorem ti4 : tiOf Try.prog 4 = some ⟨1, 1, .bool, .p (.bool false)⟩ := by kernel_rfl
theorem ti5 : tiOf Try.prog 5 = some ⟨1, 1, .int .u8, .p (.int .u8 0)⟩ := by kernel_rfl
theorem ti9 : tiOf Try.prog 9 = some ⟨1, 16, .string, .p (.str [])⟩ := by kernel_rfl
theorem ti22 : tiOf Try.prog 22 = some ⟨1, 24, .slice 43, .cl []⟩ := by kernel_rfl
theorem ti23 : tiOf Try.prog 23 = some ⟨1, 24, .slice 3, .cl []⟩ := by kernel_rfl
theorem ti24 : tiOf Try.prog 24 = some ⟨4, 32, .array 4 3, .agg [.p (.int .i64 0), .p (.int .i64 0), .p (.int .i64 0), .p (.int .i64 0)]⟩ := by kernel_rfl
theorem ti29 : tiOf Try.prog 29 = some ⟨1, 24, .slice 56, .cl []⟩ := by kernel_rfl
theorem ti30 : tiOf Try.prog 30 = some ⟨1, 24, .slice 23, .cl []⟩ := by kernel_rfl
theorem ti31 : tiOf Try.prog 31 = some ⟨1, 24, .slice 52, .cl []⟩ := by kernel_rfl
theorem ti33 : tiOf Try.prog 33 = some ⟨4, 32, .struct [(0, 3), (1, 3), (2, 3), (3, 3)], .agg [.p (.int .i64 0), .p (.int .i64 0), .p (.int .i64 0), .p (.int .i64 0)]⟩ := by kernel_rfl
theorem fl33 : flatT Try.prog 33 = some [.int, .int, .int, .int] := by kernel_rfl
theorem ti35 : tiOf Try.prog 35 = some ⟨8, 128, .struct [(0, 29), (1, 30), (2, 31), (3, 23), (4, 33)], .agg [.cl [], .cl [], .cl [], .cl [], .p (.int .i64 0), .p (.int .i64 0), .p (.int .i64 0), .p (.int .i64 0)]⟩ := by kernel_rfl
theorem ti39 : tiOf Try.prog 39 = some ⟨2, 32, .struct [(0, 23), (1, 3)], .agg [.cl [], .p (.int .i64 0)]⟩ := by kernel_rfl
theorem ti41 : tiOf Try.prog 41 = some ⟨1, 24, .slice 9, .cl []⟩ := by kernel_rfl
theorem ti43 : tiOf Try.prog 43 = some ⟨4, 64, .struct [(0, 3), (1, 3), (2, 41), (3, 23)], .agg [.p (.int .i64 0), .p (.int .i64 0), .cl [], .cl []]⟩ := by kernel_rfl
theorem ti44 : tiOf Try.prog 44 = some ⟨1, 24, .slice 22, .cl []⟩ := by kernel_rfl
theorem ti52 : tiOf Try.prog 52 = some ⟨6, 56, .struct [(0, 9), (1, 4), (2, 3), (3, 3), (4, 3), (5, 3)], .agg [.p (.str []), .p (.bool false), .p (.int .i64 0), .p (.int .i64 0), .p (.int .i64 0), .p (.int .i64 0)]⟩ := by kernel_rfl
theorem fl52 : flatT Try.prog 52 = some [.str, .bool, .int, .int, .int, .int] := by kernel_rfl
theorem ti56 : tiOf Try.prog 56 = some ⟨3, 32, .struct [(0, 9), (1, 3), (2, 3)], .agg [.p (.str []), .p (.int .i64 0), .p (.int .i64 0)]⟩ := by kernel_rfl
theorem fl56 : flatT Try.prog 56 = some [.str, .int, .int] := by kernel_rfl
theorem ti60 : tiOf Try.prog 60 = some ⟨1, 8, .other, .bad⟩ := by kernel_rfl
theorem ti61 : tiOf Try.prog 61 = some ⟨1, 24, .slice 67, .cl []⟩ := by kernel_rfl
theorem ti63 : tiOf Try.prog 63 = some ⟨14, 208, .struct [(0, 35), (8, 60), (9, 60), (10, 23), (11, 3), (12, 61), (13, 4)], .agg [.cl [], .cl [], .cl [], .cl [], .p (.int .i64 0), .p (.int .i64 0), .p (.int .i64 0), .p (.int .i64 0), .bad, .bad, .cl [], .p (.int .i64 0), .cl [], .p (.bool false)]⟩ := by kernel_rfl
theorem ti67 : tiOf Try.prog 67 = some ⟨2, 16, .array 2 3, .agg [.p (.int .i64 0), .p (.int .i64 0)]⟩ := by kernel_rfl
theorem fl67 : flatT Try.prog 67 = some [.int, .int] := by kernel_rfl
theorem ti71 : tiOf Try.prog 71 = some ⟨9, 136, .struct [(0, 35), (8, 4)], .agg [.cl [], .cl [], .cl [], .cl [], .p (.int .i64 0), .p (.int .i64 0), .p (.int .i64 0), .p (.int .i64 0), .p (.bool false)]⟩ := by kernel_rfl
theorem ti76 : tiOf Try.prog 76 = some ⟨1, 8, .other, .bad⟩ := by kernel_rfl
theorem ti81 : tiOf Try.prog 81 = some ⟨4, 48, .struct [(0, 3), (1, 23), (2, 3), (3, 3)], .agg [.p (.int .i64 0), .cl [], .p (.int .i64 0), .p (.int .i64 0)]⟩ := by kernel_rfl
theorem ti89 : tiOf Try.prog 89 = some ⟨1, 8, .int .u64, .p (.int .u64 0)⟩ := by kernel_rfl
theorem ti91 : tiOf Try.prog 91 = some ⟨1, 24, .slice 5, .cl []⟩ := by kernel_rfl
theorem ti95 : tiOf Try.prog 95 = some ⟨1, 24, .slice 4, .cl []⟩ := by kernel_rfl
theorem ti99 : tiOf Try.prog 99 = some ⟨3, 40, .struct [(0, 9), (1, 9), (2, 4)], .agg [.p (.str []), .p (.str []), .p (.bool false)]⟩ := by kernel_rfl
theorem ti100 : tiOf Try.prog 100 = some ⟨21, 280, .array 7 99, .agg [.p (.str []), .p (.str []), .p (.bool false), .p (.str []), .p (.str []), .p (.bool false), .p (.str []), .p (.str []), .p (.bool false), .p (.str []), .p (.str []), .p (.bool false), .p (.str []), .p (.str []), .p (.bool false), .p (.str []), .p (.str []), .p (.bool false), .p (.str []), .p (.str []), .p (.bool false)]⟩ := by kernel_rfl
theorem ti117 : tiOf Try.prog 117 = some ⟨1, 8, .int .u64, .p (.int .u64 0)⟩ := by kernel_rfl
theorem mp60 : mapOf Try.prog 60 = some (.str, .int .i64 0) := by kernel_rfl
theorem mp76 : mapOf Try.prog 76 = some (.int .i64, .bool false) := by kernel_rfl
theorem enters3 : Enters Try.prog 3 := fun args w => Try.call3 args w
theorem enters4 : Enters Try.prog 4 := fun args w => Try.call4 args w
theorem enters5 : Enters Try.prog 5 := fun args w => Try.call5 args w
theorem enters6 : Enters Try.prog 6 := fun args w => Try.call6 args w
theorem enters7 : Enters Try.prog 7 := fun args w => Try.call7 args w
theorem enters8 : Enters Try.prog 8 := fun args w => Try.call8 args w
theorem enters9 : Enters Try.prog 9 := fun args w => Try.call9 args w
theorem enters10 : Enters Try.prog 10 := fun args w => Try.call10 args w
theorem enters11 : Enters Try.prog 11 := fun args w => Try.call11 args w
theorem enters12 : Enters Try.prog 12 := fun args w => Try.call12 args w
theorem enters13 : Enters Try.prog 13 := fun args w => Try.call13 args w
theorem enters14 : Enters Try.prog 14 := fun args w => Try.call14 args w
theorem enters15 : Enters Try.prog 15 := fun args w => Try.call15 args w
theorem enters16 : Enters Try.prog 16 := fun args w => Try.call16 args w
theorem enters17 : Enters Try.prog 17 := fun args w => Try.call17 args w
theorem enters18 : Enters Try.prog 18 := fun args w => Try.call18 args w
theorem enters19 : Enters Try.prog 19 := fun args w => Try.call19 args w
theorem enters20 : Enters Try.prog 20 := fun args w => Try.call20 args w
theorem enters21 : Enters Try.prog 21 := fun args w => Try.call21 args w
theorem enters22 : Enters Try.prog 22 := fun args w => Try.call22 args w
theorem enters23 : Enters Try.prog 23 := fun args w => Try.call23 args w
theorem enters24 : Enters Try.prog 24 := fun args w => Try.call24 args w
theorem enters25 : Enters Try.prog 25 := fun args w => Try.call25 args w
theorem enters26 : Enters Try.prog 26 := fun args w => Try.call26 args w
theorem enters27 : Enters Try.prog 27 := fun args w => Try.call27 args w
theorem enters28 : Enters Try.prog 28 := fun args w => Try.call28 args w
theorem enters29 : Enters Try.prog 29 := fun args w => Try.call29 args w
theorem enters30 : Enters Try.prog 30 := fun args w => Try.call30 args w
theorem enters31 : Enters Try.prog 31 := fun args w => Try.call31 args w
theorem enters32 : Enters Try.prog 32 := fun args w => Try.call32 args w
theorem enters33 : Enters Try.prog 33 := fun args w => Try.call33 args w
theorem enters34 : Enters Try.prog 34 := fun args w => Try.call34 args w
theorem enters35 : Enters Try.prog 35 := fun args w => Try.call35 args w
theorem enters36 : Enters Try.prog 36 := fun args w => Try.call36 args w
theorem enters37 : Enters Try.prog 37 := fun args w => Try.call37 args w
theorem enters38 : Enters Try.prog 38 := fun args w => Try.call38 args w
theorem enters39 : Enters Try.prog 39 := fun args w => Try.call39 args w
theorem enters40 : Enters Try.prog 40 := fun args w => Try.call40 args w
theorem enters41 : Enters Try.prog 41 := fun args w => Try.call41 args w
theorem enters42 : Enters Try.prog 42 := fun args w => Try.call42 args w
theorem enters43 : Enters Try.prog 43 := fun args w => Try.call43 args w
theorem enters44 : Enters Try.prog 44 := fun args w => Try.call44 args w
theorem enters45 : Enters Try.prog 45 := fun args w => Try.call45 args w
theorem enters46 : Enters Try.prog 46 := fun args w => Try.call46 args w
theorem enters47 : Enters Try.prog 47 := fun args w => Try.call47 args w
theorem enters48 : Enters Try.prog 48 := fun args w => Try.call48 args w
theorem enters49 : Enters Try.prog 49 := fun args w => Try.call49 args w
theorem enters50 : Enters Try.prog 50 := fun args w => Try.call50 args w
theorem enters51 : Enters Try.prog 51 := fun args w => Try.call51 args w
theorem enters52 : Enters Try.prog 52 := fun args w => Try.call52 args w
theorem enters53 : Enters Try.prog 53 := fun args w => Try.call53 args w
theorem enters54 : Enters Try.prog 54 := fun args w => Try.call54 args w
theorem enters55 : Enters Try.prog 55 := fun args w => Try.call55 args w
theorem enters56 : Enters Try.prog 56 := fun args w => Try.call56 args w
theorem enters57 : Enters Try.prog 57 := fun args w => Try.call57 args w
theorem enters58 : Enters Try.prog 58 := fun args w => Try.call58 args w
theorem enters59 : Enters Try.prog 59 := fun args w => Try.call59 args w
theorem enters60 : Enters Try.prog 60 := fun args w => Try.call60 args w
theorem enters61 : Enters Try.prog 61 := fun args w => Try.call61 args w
theorem enters62 : Enters Try.prog 62 := fun args w => Try.call62 args w
theorem enters63 : Enters Try.prog 63 := fun args w => Try.call63 args w
theorem enters69 : Enters Try.prog 69 := fun args w => Try.call69 args w
theorem enters73 : Enters Try.prog 73 := fun args w => Try.call73 args w
theorem enters74 : Enters Try.prog 74 := fun args w => Try.call74 args w
theorem enters75 : Enters Try.prog 75 := fun args w => Try.call75 args w
theorem enters76 : Enters Try.prog 76 := fun args w => Try.call76 args w
theorem enters77 : Enters Try.prog 77 := fun args w => Try.call77 args w
theorem enters78 : Enters Try.prog 78 := fun args w => Try.call78 args w
theorem enters79 : Enters Try.prog 79 := fun args w => Try.call79 args w
theorem enters80 : Enters Try.prog 80 := fun args w => Try.call80 args w
theorem enters81 : Enters Try.prog 81 := fun args w => Try.call81 args w
theorem enters82 : Enters Try.prog 82 := fun args w => Try.call82 args w
theorem enters83 : Enters Try.prog 83 := fun args w => Try.call83 args w
theorem enters84 : Enters Try.prog 84 := fun args w => Try.call84 args w
theorem enters90 : Enters Try.prog 90 := fun args w => Try.call90 args w
theorem enters91 : Enters Try.prog 91 := fun args w => Try.call91 args w
theorem enters92 : Enters Try.prog 92 := fun args w => Try.call92 args w
theorem enters93 : Enters Try.prog 93 := fun args w => Try.call93 args w
theorem enters95 : Enters Try.prog 95 := fun args w => Try.call95 args w
theorem mixed : Try.prog.follows .mixedOrders = true := by kernel_rfl
attribute [go_sem] ti2 ti3 ti4 ti5 ti9 ti22 ti23 ti24
attribute [go_sem] ti29 ti30 ti31 ti33 fl33 ti35
attribute [go_sem] ti39 ti41 ti43 ti44 ti52 fl52 ti56
attribute [go_sem] fl56 ti60 ti61 ti63 ti67 fl67 ti71 ti76
attribute [go_sem] ti81 ti89 ti91 ti95 ti99 ti100
attribute [go_sem] ti117 mp60 mp76 Try.ntmps2 Try.results2 Try.ntmps3 Try.results3 Try.ntmps4
attribute [go_sem] Try.results4 Try.ntmps5 Try.results5 Try.ntmps6 Try.results6 Try.ntmps7 Try.results7 Try.ntmps8 Try.results8 Try.ntmps9 Try.results9 Try.ntmps10
attribute [go_sem] Try.results10 Try.ntmps11 Try.results11 Try.ntmps12 Try.results12 Try.ntmps13 Try.results13 Try.ntmps14 Try.results14 Try.ntmps15 Try.results15 Try.ntmps16
attribute [go_sem] Try.results16 Try.ntmps17 Try.results17 Try.ntmps18 Try.results18 Try.ntmps19 Try.results19 Try.ntmps20 Try.results20 Try.ntmps21 Try.results21 Try.ntmps22
attribute [go_sem] Try.results22 Try.ntmps23 Try.results23 Try.ntmps24 Try.results24 Try.ntmps25 Try.results25 Try.ntmps26 Try.results26 Try.ntmps27 Try.results27 Try.ntmps28
attribute [go_sem] Try.results28 Try.ntmps29 Try.results29 Try.ntmps30 Try.results30 Try.ntmps31 Try.results31 Try.ntmps32 Try.results32 Try.ntmps33 Try.results33 Try.ntmps34
attribute [go_sem] Try.results34 Try.ntmps35 Try.results35 Try.ntmps36 Try.results36 Try.ntmps37 Try.results37 Try.ntmps38 Try.results38 Try.ntmps39 Try.results39 Try.ntmps40
attribute [go_sem] Try.results40 Try.ntmps41 Try.results41 Try.ntmps42 Try.results42 Try.ntmps43 Try.results43 Try.ntmps44 Try.results44 Try.ntmps45 Try.results45 Try.ntmps46
attribute [go_sem] Try.results46 Try.ntmps47 Try.results47 Try.ntmps48 Try.results48 Try.ntmps49 Try.results49 Try.ntmps50 Try.results50 Try.ntmps51 Try.results51 Try.ntmps52
attribute [go_sem] Try.results52 Try.ntmps53 Try.results53 Try.ntmps54 Try.results54 Try.ntmps55 Try.results55 Try.ntmps56 Try.results56 Try.ntmps57 Try.results57 Try.ntmps58
attribute [go_sem] Try.results58 Try.ntmps59 Try.results59 Try.ntmps60 Try.results60 Try.ntmps61 Try.results61 Try.ntmps62 Try.results62 Try.ntmps63 Try.results63 Try.ntmps64
attribute [go_sem] Try.results64 Try.ntmps65 Try.results65 Try.ntmps66 Try.results66 Try.ntmps67 Try.results67 Try.ntmps68 Try.results68 Try.ntmps69 Try.results69 Try.ntmps70
attribute [go_sem] Try.results70 Try.ntmps71 Try.results71 Try.ntmps72 Try.results72 Try.ntmps73 Try.results73 Try.ntmps74 Try.results74 Try.ntmps75 Try.results75 Try.ntmps76
attribute [go_sem] Try.results76 Try.ntmps77 Try.results77 Try.ntmps78 Try.results78 Try.ntmps79 Try.results79 Try.ntmps80 Try.results80 Try.ntmps81 Try.results81 Try.ntmps82
attribute [go_sem] Try.results82 Try.ntmps83 Try.results83 Try.ntmps84 Try.results84 Try.ntmps85 Try.results85 Try.ntmps86 Try.results86 Try.ntmps87 Try.results87 Try.ntmps88
attribute [go_sem] Try.results88 Try.ntmps89 Try.results89 Try.ntmps90 Try.results90 Try.ntmps91 Try.results91 Try.ntmps92 Try.results92 Try.ntmps93 Try.results93 Try.ntmps94
attribute [go_sem] Try.results94 Try.ntmps95 Try.results95
attribute [go_sem ↓] reduceIte
attribute [go_sem] Nat.reduceLT Nat.reduceLeDiff Nat.reduceEqDiff Nat.reduceAdd Nat.reduceMul Nat.reduceSub reduceCtorEq Int.reduceLT Int.reduceLE Int.reduceEq Int.reduceToNat decide_true decide_false Int.reduceNeg Int.cast_ofNat_Int sg AO.sg Option.isNone_none
end Go.Am
end
section
namespace Go.Am
open Go Go.Proofs
set_option maxRecDepth 100000
set_option linter.unusedVariables false
set_option linter.unusedSimpArgs false
def encI (l : List Int) : List (List Pd) := l.map fun n => [.int .i64 n]
def encS (l : List (List UInt8)) : List (List Pd) := l.map fun s => [.str s]
theorem encI_len (l : List Int) : (encI l).length = l.length := by simp [encI]
theorem encI_get (l : List Int) (i : Nat) (h : i < l.length) : (encI l).getD i [] = [.int .i64 (l.getD i 0)] := by simp [encI, List.getD, h]
theorem encS_len (l : List (List UInt8)) : (encS l).length = l.length := by simp [encS]
theorem encS_get (l : List (List UInt8)) (i : Nat) (h : i < l.length) : (encS l).getD i [] = [.str (l.getD i [])] := by simp [encS, List.getD, h]
theorem encI_snoc (l : List Int) (x : Int) : encI (l ++ [x]) = encI l ++ [[.int .i64 x]] := by simp [encI]
theorem encS_snoc (l : List (List UInt8)) (x : List UInt8) : encS (l ++ [x]) = encS l ++ [[.str x]] := by simp [encS]
theorem encI_take (l : List Int) (n : Nat) (h : l.length ≤ n) : (encI l).take n = encI l := List.take_of_length_le (by simpa [encI] using h)
theorem wid1 (n : Nat) (x : List Pd) (h : x.length = n) : Wid n [x] := by simp [Wid, h]
theorem encS_set (l : List (List UInt8)) (i : Nat) (x : List UInt8) : encS (l.set i x) = (encS l).set i [.str x] := by simp [encS, List.map_set]
theorem encI_set (l : List Int) (i : Nat) (x : Int) : encI (l.set i x) = (encI l).set i [.int .i64 x] := by simp [encI, List.map_set]
theorem getD_mem {α : Type} (l : List α) (i : Nat) (x : α) (h : i < l.length) : l.getD i x ∈ l := by simp only [List.getD, List.getElem?_eq_getElem h, Option.getD_some]; exact List.getElem_mem h
theorem drop_getD {α : Type} (l : List α) (i : Nat) (x : α) (h : i < l.length) : l.drop i = l.getD i x :: l.drop (i + 1) := by rw [List.drop_eq_getElem_cons h]; simp [List.getD, h]
def In64 (x : Int) : Prop := -9223372036854775808 ≤ x ∧ x ≤ 9223372036854775807
theorem wrap_succ (i : Nat) (h : i < 9223372036854775807) : IntKind.i64.wrap ((i : Int) + 1) = ((i + 1 : Nat) : Int) := by rw [wrap_i64_id] <;> omega
def cut (v n : Int) : Int := if n ≤ 1 then 0 else if v.tmod n < 0 then v.tmod n + n else v.tmod n
theorem cut_lt (v n : Int) : 0 ≤ cut v n ∧ (cut v n < n ∨ cut v n = 0) := by
  unfold cut
  split
  · omega
  · have h1 := Int.tmod_lt_of_pos v (show 0 < n by omega)
    have h2 := Int.lt_tmod_of_pos v (show 0 < n by omega)
    split <;> omega
theorem cut_ok (v n : Int) (hn : In64 n) : ACalls Try.prog 7 [.p (.int .i64 v), .p (.int .i64 n)] [] fun h r => h = [] ∧ r = .p (.int .i64 (cut v n)) := by
  unfold In64 at hn
  refine ACalls_X Try.func7 rfl enters7 (by simp [Try.f7]) ?_
  simp only [go_sem]
  refine Cn_split (fun h1 => ?_) (fun h1 => ?_)
  · simp only [go_sem]
    simp at h1
    simp [cut, h1]
  · simp only [go_sem]
    simp at h1
    refine ⟨by omega, ?_⟩
    refine Cn_split (fun h2 => ?_) (fun h2 => ?_)
    · simp at h2
      have h3 : IntKind.i64.wrap (v.tmod n + n) = v.tmod n + n := by
        have h4 := Int.tmod_lt_of_pos v (show 0 < n by omega)
        have h5 := Int.lt_tmod_of_pos v (show 0 < n by omega)
        rw [wrap_i64_id] <;> omega
      simp only [go_sem, h3]
      simp only [cut, h2, if_true, true_and]
      rw [if_neg (by omega)]
    · simp only [go_sem]
      simp at h2
      simp only [cut, true_and]
      rw [if_neg (by omega), if_neg (by omega)]
def nextV (l : List Int) (at_ : Nat) (n : Int) : Int := cut (if at_ < l.length then l.getD at_ 0 else ((at_ : Int) * 7).tmod 11) n
theorem nextV_lt (l : List Int) (at_ : Nat) (n : Int) : 0 ≤ nextV l at_ n ∧ (nextV l at_ n < n ∨ nextV l at_ n = 0) := cut_lt _ _
theorem nextV_rng (l : List Int) (at_ : Nat) (n : Int) (hn : 0 < n) : ∃ k : Nat, nextV l at_ n = (k : Int) ∧ (k : Int) < n := by
  have h := nextV_lt l at_ n
  exact ⟨(nextV l at_ n).toNat, by omega, by omega⟩
theorem in64_small (n : Int) (h0 : 0 ≤ n) (h1 : n ≤ 1000000) : In64 n := by unfold In64; omega
theorem encB_len (l : List UInt8) : (encB l).length = l.length := by simp [encB]
theorem encB_get (l : List UInt8) (i : Nat) (h : i < l.length) : (encB l).getD i [] = [.int .u8 (l.getD i 0).toNat] := by simp [encB, List.getD, h]
def tapeC (l : List Int) (at_ : Nat) : List D := [.p (.sl (encI l)), .p (.int .i64 (at_ : Nat))]
theorem next_ok (l : List Int) (at_ : Nat) (n : Int) (hat : at_ < 1000000000000) (hn : In64 n) :
    ACalls Try.prog 17 [.ptr 1000000 0, .p (.int .i64 n)] [(1000000, .box (tapeC l at_))] fun h r => h = [(1000000, .box (tapeC l (at_ + 1)))] ∧ r = .p (.int .i64 (nextV l at_ n)) := by
  refine ACalls_X Try.func17 rfl enters17 (by simp [Try.f17]) ?_
  have h7 : IntKind.i64.wrap ((at_ : Int) * 7) = (at_ : Int) * 7 := by rw [wrap_i64_id] <;> omega
  have h8 : IntKind.i64.wrap ((at_ : Int) + 1) = ((at_ + 1 : Nat) : Int) := by rw [wrap_i64_id] <;> omega
  unfold tapeC
  simp only [go_sem, h7]
  refine X_any [(1000000, .box [.p (.sl (encI l)), .p (.int .i64 (at_ : Nat))])] mixed (p := [(0, 0), (1, 0), (2, 0), (3, 0), (4, 0), (5, 0), (6, 0), (7, 0), (8, 0), (9, 0)]) (by kernel_rfl) (by simp [LeH, get]) ?_
  simp only [go_sem, h7, encI_len]
  refine Cn_split (fun h1 => ?_) (fun h1 => ?_)
  · have hlt : at_ < l.length := by simp at h1; omega
    refine X_any [(1000000, .box [.p (.sl (encI l)), .p (.int .i64 (at_ : Nat))])] mixed (p := [(0, 0), (1, 0), (2, 0), (3, 0), (4, 0), (5, 0), (6, 0), (7, 0), (8, 0), (9, 0), (10, 0)]) (by kernel_rfl) (by simp [LeH, get]) ?_
    simp only [go_sem, h8, encI_len, Int.toNat_natCast, encI_get l at_ hlt]
    refine ⟨by omega, Cc_of (cut_ok _ _ hn) ?_⟩
    rintro h' r ⟨rfl, rfl⟩
    simp only [go_sem, h8]
    simp [nextV, hlt]
  · simp only [go_sem, h8]
    refine Cc_of (cut_ok _ _ hn) ?_
    rintro h' r ⟨rfl, rfl⟩
    simp only [go_sem, h8]
    have : ¬ at_ < l.length := by simp at h1; omega
    simp [nextV, this]
end Go.Am
end
section
namespace Go.Am
open Go Go.Proofs
set_option maxRecDepth 100000
set_option linter.unusedVariables false
set_option linter.unusedSimpArgs false
structure Dc where
  word : Int
  line : Int
  names : List (List UInt8)
  nums : List Int
  deriving DecidableEq
def dc0 : Dc := ⟨0, 0, [], []⟩
def Dc.d (x : Dc) : D := .agg [.p (.int .i64 x.word), .p (.int .i64 x.line), .p (.sl (encS x.names)), .p (.sl (encI x.nums))]
structure Ln where
  num : Int
  fs : List (List UInt8)
  deriving DecidableEq
def encL (l : List Ln) : List (List Pd) := l.map fun x => [.int .i64 x.num, .sl (encS x.fs)]
theorem encL_len (l : List Ln) : (encL l).length = l.length := by simp [encL]
theorem encL_snoc (l : List Ln) (x : Ln) : encL (l ++ [x]) = encL l ++ [[.int .i64 x.num, .sl (encS x.fs)]] := by simp [encL]
def encC (l : List Dc) : List (List Pd) := l.map fun x => [.int .i64 x.word, .int .i64 x.line, .sl (encS x.names), .sl (encI x.nums)]
theorem encC_len (l : List Dc) : (encC l).length = l.length := by simp [encC]
theorem encC_get (l : List Dc) (i : Nat) (h : i < l.length) : (encC l).getD i [] = [.int .i64 (l.getD i dc0).word, .int .i64 (l.getD i dc0).line, .sl (encS (l.getD i dc0).names), .sl (encI (l.getD i dc0).nums)] := by simp [encC, List.getD, h]
theorem encC_snoc (l : List Dc) (x : Dc) : encC (l ++ [x]) = encC l ++ [[.int .i64 x.word, .int .i64 x.line, .sl (encS x.names), .sl (encI x.nums)]] := by simp [encC]
end Go.Am
end
section
namespace Go.Am
open Go Go.Proofs
set_option maxRecDepth 100000
set_option linter.unusedVariables false
set_option linter.unusedSimpArgs false
def letterB (c : Int) : Bool := decide (97 ≤ c ∧ c ≤ 122) || decide (65 ≤ c ∧ c ≤ 90)
theorem letter1_ok (c : Int) : ACalls Try.prog 49 [.p (.int .u8 c)] [] fun h r => h = [] ∧ r = .p (.bool (letterB c)) := by
  refine ACalls_X Try.func49 rfl enters49 (by simp [Try.f49]) ?_
  by_cases h1 : 97 ≤ c <;> by_cases h2 : c ≤ 122 <;> by_cases h3 : 65 ≤ c <;> by_cases h4 : c ≤ 90 <;> (try omega) <;>
  · simp only [go_sem, h1, h2, h3, h4]
    simp [letterB, h1, h2, h3, h4]
theorem letter2_ok (c : Int) : ACalls Try.prog 77 [.p (.int .u8 c)] [] fun h r => h = [] ∧ r = .p (.bool (letterB c)) := by
  refine ACalls_X Try.func77 rfl enters77 (by simp [Try.f77]) ?_
  by_cases h1 : 97 ≤ c <;> by_cases h2 : c ≤ 122 <;> by_cases h3 : 65 ≤ c <;> by_cases h4 : c ≤ 90 <;> (try omega) <;>
  · simp only [go_sem, h1, h2, h3, h4]
    simp [letterB, h1, h2, h3, h4]
end Go.Am
end
section
namespace Go.Am
open Go Go.Proofs
set_option maxRecDepth 100000
set_option linter.unusedVariables false
set_option linter.unusedSimpArgs false
def chB (c : Int) : Bool := letterB c || decide (48 ≤ c ∧ c ≤ 57) || decide (c = 45) || decide (c = 95)
def nameB (l : List UInt8) : Bool := match l with
  | [] => false
  | b :: _ => decide (l.length ≤ 12) && letterB b.toNat && l.all fun c => chB c.toNat
theorem chB_split (c : Int) : chB c = (letterB c || (decide (48 ≤ c) && decide (c ≤ 57)) || decide (c = 45) || decide (c = 95)) := by simp [chB]
theorem name1_ok (l : List UInt8) : ACalls Try.prog 26 [.p (.str l)] [] fun h r => h = [] ∧ r = .p (.bool (nameB l)) := by
  refine ACalls_X Try.func26 rfl enters26 (by simp [Try.f26]) ?_
  cases l with
  | nil =>
    simp only [go_sem]
    rfl
  | cons b l =>
    by_cases hL : (12 : Int) < ((l.length + 1 : Nat) : Int)
    · simp only [go_sem, hL]
      have : ¬ l.length + 1 ≤ 12 := by omega
      simp [nameB, this]
    · simp only [go_sem, hL, List.getD_cons_zero]
      refine ⟨by omega, Cc_of (letter1_ok _) ?_⟩
      rintro h' r ⟨rfl, rfl⟩
      simp only [go_sem, hL]
      cases hb : letterB b.toNat
      · simp only [go_sem]
        simp [nameB, hb]
      · simp only [go_sem]
        refine Af_bytes rfl ti9 ti91 ti5 rfl ?_
        simp only [go_sem, encB_len]
        refine X_loop_inv (fun i => ⟨[(19, .p (.sl (encB (b :: l)))), (20, .p (.int .i64 ((l.length + 1 : Nat) : Int))), (21, .p (.int .i64 (i : Nat)))], [], 45⟩) (fun i => i ≤ l.length + 1 ∧ ∀ j, j < i → chB ((b :: l).getD j 0).toNat = true) (fun i => l.length + 1 - i) 0 ⟨Nat.zero_le _, by simp⟩
          (Wk.forget (by simp [Le, LeE, LeH, get, envIds, hpIds, KeepH, D.ids])) ?_
        rintro i n ⟨hi, he⟩ ih
        simp only [go_sem, encB_len]
        refine Cn_split (fun h2 => ?_) (fun h2 => ?_)
        · have hlt : i < (b :: l).length := by simp at h2 ⊢; omega
          simp only [go_sem, encB_len, Int.toNat_natCast, encB_get (b :: l) i hlt]
          have hw := wrap_succ i (by omega)
          generalize hcc : (((b :: l).getD i 0).toNat : Int) = c
          refine ⟨by simp at hlt; omega, Cc_of (letter1_ok _) ?_⟩
          rintro h' r ⟨rfl, rfl⟩
          have hno : chB c = false → nameB (b :: l) = false := by
            intro hf
            have : ((b :: l).all fun c => chB c.toNat) = false := by
              rw [Bool.eq_false_iff]
              intro ht
              have := List.all_eq_true.1 ht ((b :: l).getD i 0) (by simp only [List.getD, List.getElem?_eq_getElem hlt, Option.getD_some]; exact List.getElem_mem hlt)
              rw [hcc, hf] at this
              cases this
            simp only [nameB, this, Bool.and_false]
          have hyes : chB c = true → ∀ j, j < i + 1 → chB ((b :: l).getD j 0).toNat = true := by
            intro ht j hj
            rcases Nat.lt_succ_iff_lt_or_eq.1 hj with hj | rfl
            · exact he j hj
            · rw [hcc]; exact ht
          have hle : i + 1 ≤ l.length + 1 := by simp only [List.length_cons] at hlt; omega
          cases hlc : letterB c
          · by_cases h48 : c < 48 <;> by_cases h57 : 57 < c <;> by_cases h45 : c = 45 <;> by_cases h95 : c = 95 <;> (try omega) <;>
            · simp only [go_sem, hlc, h48, h57, h45, h95, hw]
              first
                | exact ⟨trivial, by rw [hno (by simp [chB_split, hlc]; omega)]⟩
                | exact ⟨rfl, by rw [hno (by simp [chB_split, hlc]; omega)]⟩
                | (rw [hno (by simp [chB_split, hlc]; omega)])
                | exact ih (i + 1) _ ⟨hle, hyes (by simp [chB_split, hlc]; omega)⟩ (by omega) (Wk.forget (by simp [Le, LeE, LeH, get, envIds, hpIds, KeepH, D.ids]))
          · simp only [go_sem, hlc, hw]
            exact ih (i + 1) _ ⟨hle, hyes (by simp [chB_split, hlc])⟩ (by omega) (Wk.forget (by simp [Le, LeE, LeH, get, envIds, hpIds, KeepH, D.ids]))
        · simp only [go_sem]
          have hi2 : i = l.length + 1 := by simp at h2; omega
          have hall : ((b :: l).all fun c => chB c.toNat) = true := by
            refine List.all_eq_true.2 fun x hx => ?_
            obtain ⟨j, hj, rfl⟩ := List.mem_iff_getElem.1 hx
            have := he j (by simp at hj; omega)
            simpa only [List.getD, List.getElem?_eq_getElem hj, Option.getD_some] using this
          have h12 : l.length + 1 ≤ 12 := by omega
          simp only [nameB, hall, hb, List.length_cons, h12, decide_true, Bool.and_self, and_self]
end Go.Am
end
section
namespace Go.Am
open Go Go.Proofs
set_option maxRecDepth 100000
set_option linter.unusedVariables false
set_option linter.unusedSimpArgs false
theorem name2_ok (l : List UInt8) : ACalls Try.prog 50 [.p (.str l)] [] fun h r => h = [] ∧ r = .p (.bool (nameB l)) := by
  refine ACalls_X Try.func50 rfl enters50 (by simp [Try.f50]) ?_
  cases l with
  | nil =>
    simp only [go_sem]
    rfl
  | cons b l =>
    by_cases hL : (12 : Int) < ((l.length + 1 : Nat) : Int)
    · simp only [go_sem, hL]
      have : ¬ l.length + 1 ≤ 12 := by omega
      simp [nameB, this]
    · simp only [go_sem, hL, List.getD_cons_zero]
      refine ⟨by omega, Cc_of (letter2_ok _) ?_⟩
      rintro h' r ⟨rfl, rfl⟩
      simp only [go_sem, hL]
      cases hb : letterB b.toNat
      · simp only [go_sem]
        simp [nameB, hb]
      · simp only [go_sem]
        refine X_loop_inv (fun i => ⟨[(0, .p (.str (b :: l))), (3, .p (.int .i64 (i : Nat)))], [], 46⟩) (fun i => i ≤ l.length + 1 ∧ ∀ j, j < i → chB ((b :: l).getD j 0).toNat = true) (fun i => l.length + 1 - i) 0 ⟨Nat.zero_le _, by simp⟩
          (Wk.forget (by simp [Le, LeE, LeH, get, envIds, hpIds, KeepH, D.ids])) ?_
        rintro i n ⟨hi, he⟩ ih
        simp only [go_sem]
        refine Cn_split (fun h2 => ?_) (fun h2 => ?_)
        · have hlt : i < (b :: l).length := by simp at h2 ⊢; omega
          simp only [go_sem, Int.toNat_natCast]
          have hw := wrap_succ i (by omega)
          generalize hcc : (((b :: l).getD i 0).toNat : Int) = c
          refine ⟨by simp at hlt; omega, Cc_of (letter2_ok _) ?_⟩
          rintro h' r ⟨rfl, rfl⟩
          have hno : chB c = false → nameB (b :: l) = false := by
            intro hf
            have : ((b :: l).all fun c => chB c.toNat) = false := by
              rw [Bool.eq_false_iff]
              intro ht
              have := List.all_eq_true.1 ht ((b :: l).getD i 0) (by simp only [List.getD, List.getElem?_eq_getElem hlt, Option.getD_some]; exact List.getElem_mem hlt)
              rw [hcc, hf] at this
              cases this
            simp only [nameB, this, Bool.and_false]
          have hyes : chB c = true → ∀ j, j < i + 1 → chB ((b :: l).getD j 0).toNat = true := by
            intro ht j hj
            rcases Nat.lt_succ_iff_lt_or_eq.1 hj with hj | rfl
            · exact he j hj
            · rw [hcc]; exact ht
          have hle : i + 1 ≤ l.length + 1 := by simp only [List.length_cons] at hlt; omega
          cases hlc : letterB c
          · by_cases h48 : c < 48 <;> by_cases h57 : 57 < c <;> by_cases h45 : c = 45 <;> by_cases h95 : c = 95 <;> (try omega) <;>
            · simp only [go_sem, hlc, h48, h57, h45, h95, hw]
              first
                | exact ⟨trivial, by rw [hno (by simp [chB_split, hlc]; omega)]⟩
                | exact ⟨rfl, by rw [hno (by simp [chB_split, hlc]; omega)]⟩
                | (rw [hno (by simp [chB_split, hlc]; omega)])
                | exact ih (i + 1) _ ⟨hle, hyes (by simp [chB_split, hlc]; omega)⟩ (by omega) (Wk.forget (by simp [Le, LeE, LeH, get, envIds, hpIds, KeepH, D.ids]))
          · simp only [go_sem, hlc, hw]
            exact ih (i + 1) _ ⟨hle, hyes (by simp [chB_split, hlc])⟩ (by omega) (Wk.forget (by simp [Le, LeE, LeH, get, envIds, hpIds, KeepH, D.ids]))
        · simp only [go_sem]
          have hi2 : i = l.length + 1 := by simp at h2; omega
          have hall : ((b :: l).all fun c => chB c.toNat) = true := by
            refine List.all_eq_true.2 fun x hx => ?_
            obtain ⟨j, hj, rfl⟩ := List.mem_iff_getElem.1 hx
            have := he j (by simp at hj; omega)
            simpa only [List.getD, List.getElem?_eq_getElem hj, Option.getD_some] using this
          have h12 : l.length + 1 ≤ 12 := by omega
          simp only [nameB, hall, hb, List.length_cons, h12, decide_true, Bool.and_self, and_self]
end Go.Am
end
section
namespace Go.Am
open Go Go.Proofs
set_option maxRecDepth 100000
set_option linter.unusedVariables false
set_option linter.unusedSimpArgs false
end Go.Am
end
section
namespace Go.Am
open Go Go.Proofs
set_option maxRecDepth 100000
set_option linter.unusedVariables false
set_option linter.unusedSimpArgs false
end Go.Am
end
section
namespace Go.Am
open Go Go.Proofs
set_option maxRecDepth 100000
set_option linter.unusedVariables false
set_option linter.unusedSimpArgs false
structure Blk where
  name : List UInt8
  x : Int
  y : Int
  deriving DecidableEq
structure Spr where
  name : List UInt8
  depot : Bool
  inn : Int
  out : Int
  slots : Int
  base : Int
  deriving DecidableEq
structure Nt where
  blocks : List Blk
  next : List (List Int)
  spurs : List Spr
  robots : List Int
  cq : Int
  ca : Int
  cd : Int
  cp : Int
  deriving DecidableEq
def blk0 : Blk := ⟨[], 0, 0⟩
def spr0 : Spr := ⟨[], false, 0, 0, 0, 0⟩
def encK (l : List Blk) : List (List Pd) := l.map fun b => [.str b.name, .int .i64 b.x, .int .i64 b.y]
def encG (l : List (List Int)) : List (List Pd) := l.map fun r => [.sl (encI r)]
def encP (l : List Spr) : List (List Pd) := l.map fun s => [.str s.name, .bool s.depot, .int .i64 s.inn, .int .i64 s.out, .int .i64 s.slots, .int .i64 s.base]
theorem encK_len (l : List Blk) : (encK l).length = l.length := by simp [encK]
theorem encG_len (l : List (List Int)) : (encG l).length = l.length := by simp [encG]
theorem encP_len (l : List Spr) : (encP l).length = l.length := by simp [encP]
theorem encK_get (l : List Blk) (i : Nat) (h : i < l.length) : (encK l).getD i [] = [.str (l.getD i blk0).name, .int .i64 (l.getD i blk0).x, .int .i64 (l.getD i blk0).y] := by simp [encK, List.getD, h]
theorem encG_get (l : List (List Int)) (i : Nat) (h : i < l.length) : (encG l).getD i [] = [.sl (encI (l.getD i []))] := by simp [encG, List.getD, h]
theorem encP_get (l : List Spr) (i : Nat) (h : i < l.length) : (encP l).getD i [] = [.str (l.getD i spr0).name, .bool (l.getD i spr0).depot, .int .i64 (l.getD i spr0).inn, .int .i64 (l.getD i spr0).out, .int .i64 (l.getD i spr0).slots, .int .i64 (l.getD i spr0).base] := by simp [encP, List.getD, h]
theorem encK_snoc (l : List Blk) (b : Blk) : encK (l ++ [b]) = encK l ++ [[.str b.name, .int .i64 b.x, .int .i64 b.y]] := by simp [encK]
theorem encP_snoc (l : List Spr) (s : Spr) : encP (l ++ [s]) = encP l ++ [[.str s.name, .bool s.depot, .int .i64 s.inn, .int .i64 s.out, .int .i64 s.slots, .int .i64 s.base]] := by simp [encP]
theorem encK_take (l : List Blk) (n : Nat) (h : l.length ≤ n) : (encK l).take n = encK l := List.take_of_length_le (by simpa [encK] using h)
theorem encG_take (l : List (List Int)) (n : Nat) (h : l.length ≤ n) : (encG l).take n = encG l := List.take_of_length_le (by simpa [encG] using h)
theorem encP_take (l : List Spr) (n : Nat) (h : l.length ≤ n) : (encP l).take n = encP l := List.take_of_length_le (by simpa [encP] using h)
theorem encG_set (l : List (List Int)) (i : Nat) (r : List Int) : encG (l.set i r) = (encG l).set i [.sl (encI r)] := by simp [encG, List.map_set]
def encT (l : List Bool) : List (List Pd) := l.map fun b => [.bool b]
def Nt.cs (n : Nt) : List D := [.p (.sl (encK n.blocks)), .p (.sl (encG n.next)), .p (.sl (encP n.spurs)), .p (.sl (encI n.robots)), .p (.int .i64 n.cq), .p (.int .i64 n.ca), .p (.int .i64 n.cd), .p (.int .i64 n.cp)]
def insV : List Int → Int → List Int
  | [], x => [x]
  | y :: r, x => if x < y then x :: y :: r else y :: insV r x
theorem insV_len (l : List Int) (x : Int) : (insV l x).length = l.length + 1 := by
  induction l with
  | nil => rfl
  | cons y r ih => unfold insV; split <;> simp [ih]
theorem insV_mem (l : List Int) (x z : Int) : z ∈ insV l x ↔ z = x ∨ z ∈ l := by
  induction l with
  | nil => simp [insV]
  | cons y r ih =>
    unfold insV
    split
    · simp
    · simp only [List.mem_cons, ih]; constructor <;> (rintro (h | h | h) <;> simp [h])
theorem insV_asc (l : List Int) (x : Int) (h : l.Pairwise (· < ·)) (hx : x ∉ l) : (insV l x).Pairwise (· < ·) := by
  induction l with
  | nil => simp [insV]
  | cons y r ih =>
    rw [List.pairwise_cons] at h
    unfold insV
    split
    · rename_i h1
      rw [List.pairwise_cons]
      refine ⟨fun z hz => ?_, List.pairwise_cons.2 h⟩
      rcases List.mem_cons.1 hz with rfl | hz
      · exact h1
      · have := h.1 z hz; omega
    · rename_i h1
      have hne : x ≠ y := fun e => hx (by simp [e])
      rw [List.pairwise_cons]
      refine ⟨fun z hz => ?_, ih h.2 (fun hm => hx (List.mem_cons_of_mem _ hm))⟩
      rcases (insV_mem r x z).1 hz with rfl | hz
      · omega
      · exact h.1 z hz
end Go.Am
end
section
namespace Go.Am
open Go Go.Proofs
set_option maxRecDepth 100000
set_option linter.unusedVariables false
set_option linter.unusedSimpArgs false
theorem getD_eq {α : Type} {l : List α} {k : Nat} {x : α} (h : k < l.length) : l.getD k x = l[k] := by simp [List.getD, h]
theorem encT_get (l : List Bool) (i : Nat) (h : i < l.length) : (encT l).getD i [] = [.bool (l.getD i false)] := by simp [encT, List.getD, h]
theorem take_snoc {α : Type} (l : List α) (i : Nat) (x : α) (h : i < l.length) : l.take (i + 1) = l.take i ++ [l.getD i x] := by
  rw [List.take_add_one, List.getD, List.getElem?_eq_getElem h]; rfl
theorem encI_take2 (l : List Int) (i : Nat) : (encI l).take i = encI (l.take i) := by simp [encI, List.map_take]
theorem wrap_sm {n : Nat} (h : n < 10000000) : IntKind.i64.wrap ((n : Int) + 1) = ((n + 1 : Nat) : Int) := wrap_succ n (by omega)
theorem gde {α : Type} {l : List α} {k : Nat} {x : α} (h : k < l.length) : l.getD k x = l[k] := by simp [List.getD, h]
theorem getD_map' {α β : Type} (f : α → β) (l : List α) (i : Nat) (x : α) (y : β) (h : i < l.length) : (l.map f).getD i y = f (l.getD i x) := by simp [List.getD, h]
theorem ph_le : ∀ (a b : List Int), a.Nodup → (∀ x ∈ a, x ∈ b) → a.length ≤ b.length
  | [], _, _, _ => by simp
  | x :: a, b, hn, hs => by
    rw [List.nodup_cons] at hn
    have hx := hs x (by simp)
    have h1 := ph_le a (b.erase x) hn.2 (fun y hy => (List.mem_erase_of_ne (fun e => hn.1 (by rw [← e]; exact hy))).2 (hs y (by simp [hy])))
    rw [List.length_erase_of_mem hx] at h1
    have := List.length_pos_of_mem hx
    simp only [List.length_cons]; omega
end Go.Am
end
section
namespace Go.Am
open Go Go.Proofs
set_option maxRecDepth 100000
set_option linter.unusedVariables false
set_option linter.unusedSimpArgs false
def digN (n : Nat) : List UInt8 := if h : n < 10 then [UInt8.ofNat (48 + n)] else digN (n / 10) ++ [UInt8.ofNat (48 + n % 10)]
termination_by n
decreasing_by omega
theorem digN_small (n : Nat) (h : n < 10) : digN n = [UInt8.ofNat (48 + n)] := by rw [digN, dif_pos h]
theorem digN_big (n : Nat) (h : ¬ n < 10) : digN n = digN (n / 10) ++ [UInt8.ofNat (48 + n % 10)] := by rw [digN, dif_neg h]
theorem digN_len : ∀ (k n : Nat), n < 10 ^ (k + 1) → (digN n).length ≤ k + 1
  | 0, n, h => by rw [digN_small n (by simpa using h)]; simp
  | k + 1, n, h => by
    by_cases h1 : n < 10
    · rw [digN_small n h1]; simp
    · have := digN_len k (n / 10) (by rw [Nat.pow_succ] at h; omega)
      rw [digN_big n h1]; simp; omega
theorem digits_nn (n : Nat) (hn : n ≤ 1000000000000000) : ACalls Try.prog 31 [.p (.int .i64 (n : Nat))] [] fun h r => h = [] ∧ r = .p (.str (digN n)) := by
  refine ACalls_X Try.func31 rfl enters31 (by simp [Try.f31]) ?_
  have hlen := digN_len 15 n (by omega)
  have h0 : ¬ (n : Int) < 0 := by omega
  simp only [go_sem, h0]
  refine X_loop_inv (fun q : Nat × List UInt8 => ⟨[(0, .p (.int .i64 (q.1 : Nat))), (3, .p (.str q.2))], [], 23⟩) (fun q => q.1 ≤ n ∧ digN q.1 ++ q.2 = digN n) (fun q => q.1) (n, []) ⟨Nat.le_refl _, by simp⟩ (Wk.forget (by simp [Le, LeE, LeH, get, envIds, hpIds, KeepH, D.ids, idsL, AO.ids, setL, base])) ?_
  rintro ⟨m, s⟩ k ⟨hm, he⟩ ih
  simp only at hm he
  have hmod : (m : Int).tmod 10 = ((m % 10 : Nat) : Int) := by rw [Int.tmod_eq_emod_of_nonneg (by omega)]; omega
  have hdiv : (m : Int).tdiv 10 = ((m / 10 : Nat) : Int) := by rw [Int.tdiv_eq_ediv_of_nonneg (by omega)]; omega
  have w1 : IntKind.i64.wrap (48 + ((m % 10 : Nat) : Int)) = 48 + ((m % 10 : Nat) : Int) := by rw [wrap_i64_id] <;> omega
  have w2 : IntKind.u8.wrap (48 + ((m % 10 : Nat) : Int)) = ((UInt8.ofNat (48 + m % 10)).toNat : Int) := by rw [IntKind.wrap_u8]; simp
  have w3 : IntKind.i64.wrap ((m / 10 : Nat) : Int) = ((m / 10 : Nat) : Int) := by rw [wrap_i64_id] <;> omega
  have hne10 : ¬ (10 : Int) = 0 := by decide
  have hsl : s.length ≤ 20 := by have := congrArg List.length he; simp at this; omega
  simp only [go_sem, hmod, hdiv, w1, w2, hne10]
  refine Af_str (l := [UInt8.ofNat (48 + m % 10)]) rfl ti91 ti9 ti5 rfl rfl ?_
  simp only [go_sem, hmod, hdiv, w3, hne10]
  refine ⟨by unfold maxLen; omega, ?_⟩
  refine Cn_split (fun h2 => ?_) (fun h2 => ?_)
  · simp only [go_sem]
    have h3 : m < 10 := by simp at h2; omega
    rw [← he, digN_small m h3, Nat.mod_eq_of_lt h3]
    rfl
  · have h3 : ¬ m < 10 := by simp at h2; omega
    simp only [go_sem]
    refine ih (m / 10, [UInt8.ofNat (48 + m % 10)] ++ s) _ ⟨by simp only; omega, by rw [← he, digN_big m h3]; simp⟩ (by simp only; omega) ?_
    (refine Wk.forget ?_; simp [Le, LeE, LeH, get, envIds, hpIds, KeepH, D.ids, idsL, AO.ids, setL, base]; done)
end Go.Am
end
section
namespace Go.Am
open Go Go.Proofs
set_option maxRecDepth 100000
set_option linter.unusedVariables false
set_option linter.unusedSimpArgs false
end Go.Am
end
section
namespace Go.Am
open Go Go.Proofs
set_option maxRecDepth 100000
set_option linter.unusedVariables false
set_option linter.unusedSimpArgs false
theorem has_ok (l : List Int) (x : Int) (hl : l.length ≤ 10000000) :
    ACalls Try.prog 18 [.p (.sl (encI l)), .p (.int .i64 x)] [] fun h r => h = [] ∧ r = .p (.bool (decide (x ∈ l))) := by
  refine ACalls_X Try.func18 rfl enters18 (by simp [Try.f18]) ?_
  simp only [go_sem, encI_len]
  refine X_loop_inv (fun i => ⟨[(0, .p (.sl (encI l))), (1, .p (.int .i64 x)), (5, .p (.int .i64 (i : Nat)))], [], 18⟩) (fun i => i ≤ l.length ∧ x ∉ l.take i) (fun i => l.length - i) 0 ⟨Nat.zero_le _, by simp⟩ (Wk.forget (by simp [Le, LeE, LeH, get, envIds, hpIds, KeepH, D.ids, idsL, AO.ids, setL, base, encI])) ?_
  rintro i n ⟨hi, he⟩ ih
  simp only [go_sem, encI_len]
  refine Cn_split (fun h2 => ?_) (fun h2 => ?_)
  · have hlt : i < l.length := by simp at h2; omega
    have hw := wrap_succ i (by omega)
    have hg := encI_get l i hlt
    have hx : l[i]? = some (l.getD i 0) := by simp [List.getD, hlt]
    have hi0 : (0 : Int) ≤ (i : Int) ∧ (i : Int) < (l.length : Int) := by omega
    have hmem := getD_mem l i 0 hlt
    generalize l.getD i 0 = y at *
    simp only [go_sem, encI_len, Int.toNat_natCast, hg, hi0]
    cases hv : decide (y = x)
    · simp only [go_sem, hv, hw]
      refine ih (i + 1) _ ⟨hlt, ?_⟩ (by omega) ?_
      · rw [List.take_add_one, hx]
        have : ¬ x = y := fun e => of_decide_eq_false hv e.symm
        simp [he, this]
      · (refine Wk.forget ?_; simp [Le, LeE, LeH, get, envIds, hpIds, KeepH, D.ids, idsL, AO.ids, setL, base, encI]; done)
    · simp only [go_sem, hv]
      have hm : x ∈ l := by rw [← of_decide_eq_true hv]; exact hmem
      simp [hm]
  · simp only [go_sem]
    have : i = l.length := by simp at h2; omega
    subst this
    rw [List.take_length] at he
    simp [he]
theorem has_own (l : List Int) (x : Int) (hl : l.length ≤ 10000000) :
    ACalls Try.prog 18 [.ref 1000000 0 l.length l.length, .p (.int .i64 x)] [(1000000, .arr 3 1 (encI l))] fun h r => h = [(1000000, .arr 3 1 (encI l))] ∧ r = .p (.bool (decide (x ∈ l))) := by
  refine ACalls_X Try.func18 rfl enters18 (by simp [Try.f18]) ?_
  simp only [go_sem, encI_len]
  refine X_loop_inv (fun i => ⟨[(0, .ref 1000000 0 l.length l.length), (1, .p (.int .i64 x)), (5, .p (.int .i64 (i : Nat)))], [(1000000, .arr 3 1 (encI l))], 18⟩) (fun i => i ≤ l.length ∧ x ∉ l.take i) (fun i => l.length - i) 0 ⟨Nat.zero_le _, by simp⟩ (Wk.forget (by simp [Le, LeE, LeH, get, envIds, hpIds, KeepH, D.ids, idsL, AO.ids, setL, base, encI])) ?_
  rintro i n ⟨hi, he⟩ ih
  simp only [go_sem, encI_len]
  refine Cn_split (fun h2 => ?_) (fun h2 => ?_)
  · have hlt : i < l.length := by simp at h2; omega
    have hw := wrap_succ i (by omega)
    have hg := encI_get l i hlt
    have hx : l[i]? = some (l.getD i 0) := by simp [List.getD, hlt]
    have hi0 : (0 : Int) ≤ (i : Int) ∧ (i : Int) < (l.length : Int) := by omega
    have hmem := getD_mem l i 0 hlt
    generalize l.getD i 0 = y at *
    simp only [go_sem, encI_len, Int.toNat_natCast, hg, hi0]
    cases hv : decide (y = x)
    · simp only [go_sem, hv, hw]
      refine ih (i + 1) _ ⟨hlt, ?_⟩ (by omega) ?_
      · rw [List.take_add_one, hx]
        have : ¬ x = y := fun e => of_decide_eq_false hv e.symm
        simp [he, this]
      · (refine Wk.forget ?_; simp [Le, LeE, LeH, get, envIds, hpIds, KeepH, D.ids, idsL, AO.ids, setL, base, encI]; done)
    · simp only [go_sem, hv]
      have hm : x ∈ l := by rw [← of_decide_eq_true hv]; exact hmem
      simp [hm]
  · simp only [go_sem]
    have : i = l.length := by simp at h2; omega
    subst this
    rw [List.take_length] at he
    simp [he]
theorem insert_ok (l : List Int) (x : Int) (hl : l.length ≤ 10000000) :
    ACalls Try.prog 51 [.p (.sl (encI l)), .p (.int .i64 x)] [] fun h r => h = [] ∧ r = .p (.sl (encI (insV l x))) := by
  refine ACalls_X Try.func51 rfl enters51 (by simp [Try.f51]) ?_
  simp only [go_sem, encI_len]
  refine X_loop_inv (fun q : Nat × Bool × List Int => ⟨[(0, .p (.sl (encI l))), (1, .p (.int .i64 x)), (5, .ref 27 0 q.2.2.length q.2.2.length), (6, .p (.bool q.2.1)), (7, .p (.int .i64 (q.1 : Nat)))], [(27, .arr 3 1 (encI q.2.2))], 42⟩)
    (fun q => q.1 ≤ l.length ∧ q.2.2.length ≤ q.1 + q.2.1.toNat ∧ q.2.2 ++ (if q.2.1 then l.drop q.1 else insV (l.drop q.1) x) = insV l x) (fun q => l.length - q.1) (0, false, []) ⟨Nat.zero_le _, by simp, by simp⟩ ((Wk.nil (t := 5) (q := 27) (sz := 1) 3 rfl rfl (by decide)).trans (Wk.forget (by simp [Le, LeE, LeH, get, envIds, hpIds, KeepH, D.ids, idsL, AO.ids, setL, base, encI]))) ?_
  rintro ⟨i, dn, acc⟩ n ⟨hi, ha, he⟩ ih
  simp only at hi ha he
  simp only [go_sem, encI_len]
  refine Cn_split (fun h2 => ?_) (fun h2 => ?_)
  · have hlt : i < l.length := by simp at h2; omega
    have hw := wrap_succ i (by omega)
    have hg := encI_get l i hlt
    have hi0 : (0 : Int) ≤ (i : Int) ∧ (i : Int) < (l.length : Int) := by omega
    rw [drop_getD l i 0 hlt] at he
    generalize l.getD i 0 = y at *
    cases dn
    · cases hv : decide (x < y)
      · have hv' : ¬ x < y := of_decide_eq_false hv
        simp only [go_sem, encI_len, Int.toNat_natCast, hg, hi0, hv, hv']
        refine ⟨⟨wid1 _ _ rfl, by simp at ha; omega⟩, ?_⟩
        simp only [go_sem, hw]
        refine ih (i + 1, false, acc ++ [y]) _ ⟨hlt, by simp at ha ⊢; omega, ?_⟩ (by simp only; omega) ?_
        · rw [← he]; simp [insV, hv']
        · (refine Wk.forget ?_; simp [Le, LeE, LeH, get, envIds, hpIds, KeepH, D.ids, idsL, AO.ids, setL, base, encI_snoc, encI_len]; done)
      · have hv' : x < y := of_decide_eq_true hv
        simp only [go_sem, encI_len, Int.toNat_natCast, hg, hi0, hv, hv']
        refine ⟨⟨wid1 _ _ rfl, by simp at ha; omega⟩, ⟨wid1 _ _ rfl, by simp at ha; simp [encI_len]; omega⟩, ?_⟩
        simp only [go_sem, hw]
        refine ih (i + 1, true, acc ++ [x] ++ [y]) _ ⟨hlt, by simp at ha ⊢; omega, ?_⟩ (by simp only; omega) ?_
        · rw [← he]; simp [insV, hv']
        · (refine Wk.forget ?_; simp [Le, LeE, LeH, get, envIds, hpIds, KeepH, D.ids, idsL, AO.ids, setL, base, encI]; done)
    · simp only [go_sem, encI_len, Int.toNat_natCast, hg, hi0]
      refine ⟨⟨wid1 _ _ rfl, by simp at ha; omega⟩, ?_⟩
      simp only [go_sem, hw]
      refine ih (i + 1, true, acc ++ [y]) _ ⟨hlt, by simp at ha ⊢; omega, ?_⟩ (by simp only; omega) ?_
      · rw [← he]; simp
      · (refine Wk.forget ?_; simp [Le, LeE, LeH, get, envIds, hpIds, KeepH, D.ids, idsL, AO.ids, setL, base, encI_snoc, encI_len]; done)
  · have : i = l.length := by simp at h2; omega
    subst this
    rw [List.drop_length] at he
    cases dn
    · simp only [go_sem, encI_len]
      refine ⟨⟨wid1 _ _ rfl, by simp at ha; omega⟩, ?_⟩
      refine end_pure ?_
      simp only [go_sem]
      rw [← he]
      try rw [List.take_of_length_le (by simp [encI_len])]
      simp [insV, encI]
    · simp only [go_sem]
      refine end_pure ?_
      simp only [go_sem]
      rw [← he]
      simp [encI_take, encI_len]
end Go.Am
end
section
namespace Go.Am
open Go Go.Proofs
set_option maxRecDepth 100000
set_option linter.unusedVariables false
set_option linter.unusedSimpArgs false
def okAt (nb i : Nat) (l : List Int) (k : Nat) : Prop := 0 ≤ l.getD k 0 ∧ l.getD k 0 < (nb : Int) ∧ l.getD k 0 ≠ (i : Int) ∧ (0 < k → l.getD (k - 1) 0 < l.getD k 0)
instance (nb i : Nat) (l : List Int) (k : Nat) : Decidable (okAt nb i l k) := by unfold okAt; exact inferInstance
def rowP (nb i : Nat) (l : List Int) : Prop := ∀ k, k < l.length → okAt nb i l k
instance (nb i : Nat) (l : List Int) : Decidable (rowP nb i l) := by unfold rowP; exact inferInstance
def gphP (g : List (List Int)) : Prop := g.length ≤ 24 ∧ ∀ i, i < g.length → rowP g.length i (g.getD i [])
instance (g : List (List Int)) : Decidable (gphP g) := by unfold gphP; exact inferInstance
def smallG (g : List (List Int)) : Prop := g.length ≤ 10000000 ∧ ∀ r ∈ g, r.length ≤ 10000000
theorem wrap_pred (m : Nat) (h : m < 9223372036854775807) : IntKind.i64.wrap (((m + 1 : Nat) : Int) - 1) = (m : Int) := by rw [wrap_i64_id] <;> omega
theorem valid4_ok (g : List (List Int)) (hg : smallG g) : ACalls Try.prog 91 [.p (.sl (encG g))] [] fun h r => h = [] ∧ r = .p (.bool (decide (gphP g))) := by
  obtain ⟨hg1, hg2⟩ := hg
  refine ACalls_X Try.func91 rfl enters91 (by simp [Try.f91]) ?_
  simp only [go_sem, encG_len]
  refine Cn_split (fun h1 => ?_) (fun h1 => ?_)
  · simp only [go_sem]
    rw [decide_eq_false (fun hp => ?_)]
    have := hp.1
    simp at h1
    omega
  have hlen : g.length ≤ 24 := by simp at h1; omega
  simp only [go_sem]
  refine X_loop_inv (fun i : Nat => ⟨[(0, .p (.sl (encG g))), (3, .p (.int .i64 (i : Nat)))], [], 60⟩) (fun i => i ≤ g.length ∧ ∀ j, j < i → rowP g.length j (g.getD j [])) (fun i => g.length - i) 0 ⟨Nat.zero_le _, fun j hj => absurd hj (Nat.not_lt_zero _)⟩ (Wk.forget (by simp [Le, LeE, LeH, get, envIds, hpIds, KeepH, D.ids, idsL, AO.ids, setL, base])) ?_
  rintro i n ⟨hi, hrows⟩ ih
  simp only [go_sem, encG_len]
  refine Cn_split (fun h2 => ?_) (fun h2 => ?_)
  rotate_left
  · simp only [go_sem]
    have : i = g.length := by simp at h2; omega
    subst this
    rw [decide_eq_true ⟨hlen, hrows⟩]
  have hlt : i < g.length := by simp at h2; omega
  have hw := wrap_succ i (by omega)
  have hrl := hg2 _ (getD_mem g i [] hlt)
  have hgi := encG_get g i hlt
  have hbad : ¬ rowP g.length i (g.getD i []) → decide (gphP g) = false := fun h => decide_eq_false (fun hp => h (hp.2 i hlt))
  have hgood : rowP g.length i (g.getD i []) → ∀ j, j < i + 1 → rowP g.length j (g.getD j []) := fun h j hj => by
    rcases Nat.lt_succ_iff_lt_or_eq.1 hj with h3 | rfl
    · exact hrows j h3
    · exact h
  generalize g.getD i [] = r at hrl hgi hbad hgood
  have hi0 : (0 : Int) ≤ (i : Int) ∧ (i : Int) < (g.length : Int) := by omega
  simp only [go_sem]
  refine X_loop_inv (fun k : Nat => ⟨[(0, .p (.sl (encG g))), (3, .p (.int .i64 (i : Nat))), (4, .p (.int .i64 (k : Nat)))], [], 60⟩) (fun k => k ≤ r.length ∧ ∀ j, j < k → okAt g.length i r j) (fun k => r.length - k) 0 ⟨Nat.zero_le _, fun j hj => absurd hj (Nat.not_lt_zero _)⟩ (Wk.forget (by simp [Le, LeE, LeH, get, envIds, hpIds, KeepH, D.ids, idsL, AO.ids, setL, base])) ?_
  rintro k n2 ⟨hk, hok⟩ ih2
  simp only [go_sem, encG_len, encI_len, Int.toNat_natCast, hgi, hi0]
  refine Cn_split (fun h3 => ?_) (fun h3 => ?_)
  rotate_left
  · have : k = r.length := by simp at h3; omega
    subst this
    simp only [go_sem, hw]
    refine ih (i + 1) _ ⟨hlt, hgood hok⟩ (by omega) ?_
    (refine Wk.forget ?_; simp [Le, LeE, LeH, get, envIds, hpIds, KeepH, D.ids, idsL, AO.ids, setL, base]; done)
  have hkt : k < r.length := by simp at h3; omega
  have hwk := wrap_succ k (by omega)
  have hgk := encI_get r k hkt
  have hk0 : (0 : Int) ≤ (k : Int) ∧ (k : Int) < (r.length : Int) := by omega
  have hat : okAt g.length i r k ↔ (0 ≤ r.getD k 0 ∧ r.getD k 0 < (g.length : Int) ∧ r.getD k 0 ≠ (i : Int) ∧ (0 < k → r.getD (k - 1) 0 < r.getD k 0)) := Iff.rfl
  have hne : ¬ okAt g.length i r k → decide (gphP g) = false := fun h => hbad (fun hp => h (hp k hkt))
  have hyes : okAt g.length i r k → ∀ j, j < k + 1 → okAt g.length i r j := fun h j hj => by
    rcases Nat.lt_succ_iff_lt_or_eq.1 hj with h4 | rfl
    · exact hok j h4
    · exact h
  rcases k with _ | m
  · have hz0 : (0 : Int) < (r.length : Int) := by omega
    have hwz : IntKind.i64.wrap (0 + 1) = 1 := rfl
    generalize r.getD 0 0 = y at hgk hat
    cases c1 : decide (y < 0)
    rotate_left
    · simp only [go_sem, encG_len, encI_len, Int.toNat_natCast, hgi, hi0, hgk, hz0, c1]
      rw [hne (fun hp => by have := hat.1 hp; simp at c1; omega)]
    cases c2 : decide ((g.length : Int) ≤ y)
    rotate_left
    · simp only [go_sem, encG_len, encI_len, Int.toNat_natCast, hgi, hi0, hgk, hz0, c1, c2]
      rw [hne (fun hp => by have := hat.1 hp; simp at c2; omega)]
    cases c3 : decide (y = (i : Int))
    rotate_left
    · simp only [go_sem, encG_len, encI_len, Int.toNat_natCast, hgi, hi0, hgk, hz0, c1, c2, c3]
      rw [hne (fun hp => by have := hat.1 hp; simp at c3; omega)]
    simp only [go_sem, encG_len, encI_len, Int.toNat_natCast, hgi, hi0, hgk, hz0, c1, c2, c3, hwz]
    refine ih2 (0 + 1) _ ⟨hkt, hyes (hat.2 (by simp at c1 c2 c3; exact ⟨by omega, by omega, c3, fun h => absurd h (Nat.lt_irrefl _)⟩))⟩ (by omega) ?_
    (refine Wk.forget ?_; simp [Le, LeE, LeH, get, envIds, hpIds, KeepH, D.ids, idsL, AO.ids, setL, base]; done)
  · have hmt : m < r.length := by omega
    have hgm := encI_get r m hmt
    have hm0 : (0 : Int) ≤ (m : Int) ∧ (m : Int) < (r.length : Int) := by omega
    have hwp := wrap_pred m (by omega)
    have hkp : (0 : Int) < ((m + 1 : Nat) : Int) := by omega
    rw [show m + 1 - 1 = m from rfl] at hat
    generalize r.getD (m + 1) 0 = y at hgk hat
    generalize r.getD m 0 = z at hgm hat
    cases c1 : decide (y < 0)
    rotate_left
    · simp only [go_sem, encG_len, encI_len, Int.toNat_natCast, hgi, hi0, hgk, hk0, c1]
      rw [hne (fun hp => by have := hat.1 hp; simp at c1; omega)]
    cases c2 : decide ((g.length : Int) ≤ y)
    rotate_left
    · simp only [go_sem, encG_len, encI_len, Int.toNat_natCast, hgi, hi0, hgk, hk0, c1, c2]
      rw [hne (fun hp => by have := hat.1 hp; simp at c2; omega)]
    cases c3 : decide (y = (i : Int))
    rotate_left
    · simp only [go_sem, encG_len, encI_len, Int.toNat_natCast, hgi, hi0, hgk, hk0, c1, c2, c3]
      rw [hne (fun hp => by have := hat.1 hp; simp at c3; omega)]
    cases c4 : decide (y ≤ z)
    rotate_left
    · simp only [go_sem, encG_len, encI_len, Int.toNat_natCast, hgi, hi0, hgk, hk0, hgm, hm0, hwp, hkp, c1, c2, c3, c4]
      rw [hne (fun hp => by have := (hat.1 hp).2.2.2 (by omega); simp at c4; omega)]
    simp only [go_sem, encG_len, encI_len, Int.toNat_natCast, hgi, hi0, hgk, hk0, hgm, hm0, hwp, hkp, c1, c2, c3, c4, hwk]
    refine ih2 (m + 1 + 1) _ ⟨hkt, hyes (hat.2 (by simp at c1 c2 c3 c4; exact ⟨by omega, by omega, c3, fun _ => by omega⟩))⟩ (by omega) ?_
    (refine Wk.forget ?_; simp [Le, LeE, LeH, get, envIds, hpIds, KeepH, D.ids, idsL, AO.ids, setL, base]; done)
end Go.Am
end
section
namespace Go.Am
open Go Go.Proofs
set_option maxRecDepth 100000
set_option linter.unusedVariables false
set_option linter.unusedSimpArgs false
def xyP (b : Blk) : Prop := -9999 ≤ b.x ∧ b.x ≤ 9999 ∧ -9999 ≤ b.y ∧ b.y ≤ 9999
instance (b : Blk) : Decidable (xyP b) := by unfold xyP; exact inferInstance
def blocksP (n : Nt) : Prop := 1 ≤ n.blocks.length ∧ n.blocks.length ≤ 24 ∧ n.next.length = n.blocks.length ∧ ∀ i, i < n.blocks.length → xyP (n.blocks.getD i blk0) ∧ (n.next.getD i []).length ≤ 4 ∧ rowP n.blocks.length i (n.next.getD i [])
instance (n : Nt) : Decidable (blocksP n) := by unfold blocksP; exact inferInstance
set_option maxHeartbeats 800000 in
theorem blocks_ok (n : Nt) (hb : n.blocks.length ≤ 10000000) (hg : smallG n.next) : ACalls Try.prog 28 [.agg n.cs] [] fun h r => h = [] ∧ r = .p (.bool (decide (blocksP n))) := by
  obtain ⟨hg1, hg2⟩ := hg
  obtain ⟨bl, nx, sp, rb, cq, ca, cd, cp⟩ := n
  simp only at hb hg1 hg2
  refine ACalls_X Try.func28 rfl enters28 (by simp [Try.f28]) ?_
  cases d1 : decide ((bl.length : Int) < 1)
  rotate_left
  · simp only [go_sem, Nt.cs, encK_len, encG_len, d1]
    rw [decide_eq_false (fun hp => by have := hp.1; have hd := of_decide_eq_true d1; simp only at this; omega)]
  cases d2 : decide (24 < (bl.length : Int))
  rotate_left
  · simp only [go_sem, Nt.cs, encK_len, encG_len, d1, d2]
    rw [decide_eq_false (fun hp => by have := hp.2.1; simp at d2; simp only at this; omega)]
  cases d3 : decide ((nx.length : Int) = (bl.length : Int))
  · simp only [go_sem, Nt.cs, encK_len, encG_len, d1, d2, d3]
    rw [decide_eq_false (fun hp => by have := hp.2.2.1; have hd := of_decide_eq_false d3; simp only at this; omega)]
  have hl1 : 1 ≤ bl.length := by have := of_decide_eq_false d1; omega
  have hl2 : bl.length ≤ 24 := by have := of_decide_eq_false d2; omega
  have hl3 : nx.length = bl.length := by have := of_decide_eq_true d3; omega
  simp only [go_sem, Nt.cs, encK_len, encG_len, d1, d2, d3]
  clear d1 d2 d3
  refine X_loop_inv (fun i : Nat => ⟨[(1, .ptr 1 0), (3, .p (.int .i64 (i : Nat)))], [(1, .box (Nt.cs ⟨bl, nx, sp, rb, cq, ca, cd, cp⟩))], 114⟩) (fun i => i ≤ bl.length ∧ ∀ j, j < i → xyP (bl.getD j blk0) ∧ (nx.getD j []).length ≤ 4 ∧ rowP bl.length j (nx.getD j [])) (fun i => bl.length - i) 0 ⟨Nat.zero_le _, fun j hj => absurd hj (Nat.not_lt_zero _)⟩ (Wk.forget (by simp [Le, LeE, LeH, get, envIds, hpIds, KeepH, D.ids, idsL, AO.ids, setL, base, Nt.cs])) ?_
  rintro i n ⟨hi, hrows⟩ ih
  simp only [go_sem, Nt.cs, encK_len]
  refine Cn_split (fun h2 => ?_) (fun h2 => ?_)
  rotate_left
  · simp only [go_sem]
    have : i = bl.length := by simp at h2; omega
    subst this
    rw [decide_eq_true ⟨hl1, hl2, hl3, hrows⟩]
  have hlt : i < bl.length := by simp at h2; omega
  have hw := wrap_succ i (by omega)
  have hrl := hg2 _ (getD_mem nx i [] (by omega))
  have hgi := encG_get nx i (by omega)
  have hgb := encK_get bl i hlt
  have hbad2 : ¬ (xyP (bl.getD i blk0) ∧ (nx.getD i []).length ≤ 4 ∧ rowP bl.length i (nx.getD i [])) → decide (blocksP ⟨bl, nx, sp, rb, cq, ca, cd, cp⟩) = false := fun h => decide_eq_false (fun hp => h (hp.2.2.2 i hlt))
  have hgood2 : (xyP (bl.getD i blk0) ∧ (nx.getD i []).length ≤ 4 ∧ rowP bl.length i (nx.getD i [])) → ∀ j, j < i + 1 → xyP (bl.getD j blk0) ∧ (nx.getD j []).length ≤ 4 ∧ rowP bl.length j (nx.getD j []) := fun h j hj => by
    rcases Nat.lt_succ_iff_lt_or_eq.1 hj with h3 | rfl
    · exact hrows j h3
    · exact h
  generalize nx.getD i [] = r at hrl hgi hbad2 hgood2
  generalize bl.getD i blk0 = b at hgb hbad2 hgood2
  have hi0 : (0 : Int) ≤ (i : Int) ∧ (i : Int) < (nx.length : Int) := by omega
  have hi1 : (i : Int) < (bl.length : Int) := by omega
  cases c1 : decide (b.x < -9999)
  rotate_left
  · simp only [go_sem, encG_len, encK_len, encI_len, Nt.cs, Int.toNat_natCast, hgi, hgb, hi0, hi1, c1]
    rw [hbad2 (fun hp => by have := hp.1.1; simp at c1; omega)]
  cases c2 : decide (9999 < b.x)
  rotate_left
  · simp only [go_sem, encG_len, encK_len, encI_len, Nt.cs, Int.toNat_natCast, hgi, hgb, hi0, hi1, c1, c2]
    rw [hbad2 (fun hp => by have := hp.1.2.1; simp at c2; omega)]
  cases c3 : decide (b.y < -9999)
  rotate_left
  · simp only [go_sem, encG_len, encK_len, encI_len, Nt.cs, Int.toNat_natCast, hgi, hgb, hi0, hi1, c1, c2, c3]
    rw [hbad2 (fun hp => by have := hp.1.2.2.1; simp at c3; omega)]
  cases c4 : decide (9999 < b.y)
  rotate_left
  · simp only [go_sem, encG_len, encK_len, encI_len, Nt.cs, Int.toNat_natCast, hgi, hgb, hi0, hi1, c1, c2, c3, c4]
    rw [hbad2 (fun hp => by have := hp.1.2.2.2; simp at c4; omega)]
  cases c5 : decide (4 < (r.length : Int))
  rotate_left
  · simp only [go_sem, encG_len, encK_len, encI_len, Nt.cs, Int.toNat_natCast, hgi, hgb, hi0, hi1, c1, c2, c3, c4, c5]
    rw [hbad2 (fun hp => by have := hp.2.1; simp at c5; omega)]
  simp only [go_sem, encG_len, encK_len, encI_len, Nt.cs, Int.toNat_natCast, hgi, hgb, hi0, hi1, c1, c2, c3, c4, c5]
  have hxy : xyP b := by simp at c1 c2 c3 c4; exact ⟨c1, c2, c3, c4⟩
  have hr4 : r.length ≤ 4 := by simp at c5; omega
  clear c1 c2 c3 c4 c5
  have hbad : ¬ rowP bl.length i r → decide (blocksP ⟨bl, nx, sp, rb, cq, ca, cd, cp⟩) = false := fun h => hbad2 (fun hp => h hp.2.2)
  have hgood : rowP bl.length i r → ∀ j, j < i + 1 → xyP (bl.getD j blk0) ∧ (nx.getD j []).length ≤ 4 ∧ rowP bl.length j (nx.getD j []) := fun h => hgood2 ⟨hxy, hr4, h⟩
  refine X_loop_inv (fun k : Nat => ⟨[(1, .ptr 1 0), (3, .p (.int .i64 (i : Nat))), (4, .ptr 4 0), (5, .p (.int .i64 (k : Nat)))], [(1, .box (Nt.cs ⟨bl, nx, sp, rb, cq, ca, cd, cp⟩)), (4, .box [.p (.str b.name), .p (.int .i64 b.x), .p (.int .i64 b.y)])], 114⟩) (fun k => k ≤ r.length ∧ ∀ j, j < k → okAt bl.length i r j) (fun k => r.length - k) 0 ⟨Nat.zero_le _, fun j hj => absurd hj (Nat.not_lt_zero _)⟩ (Wk.forget (by simp [Le, LeE, LeH, get, envIds, hpIds, KeepH, D.ids, idsL, AO.ids, setL, base, Nt.cs])) ?_
  rintro k n2 ⟨hk, hok⟩ ih2
  simp only [go_sem, encG_len, encK_len, encI_len, Nt.cs, Int.toNat_natCast, hgi, hi0, hi1]
  refine Cn_split (fun h3 => ?_) (fun h3 => ?_)
  rotate_left
  · have : k = r.length := by simp at h3; omega
    subst this
    simp only [go_sem, hw]
    refine ih (i + 1) _ ⟨hlt, hgood hok⟩ (by omega) ?_
    (refine Wk.forget ?_; simp [Le, LeE, LeH, get, envIds, hpIds, KeepH, D.ids, idsL, AO.ids, setL, base, Nt.cs]; done)
  have hkt : k < r.length := by simp at h3; omega
  have hwk := wrap_succ k (by omega)
  have hgk := encI_get r k hkt
  have hk0 : (0 : Int) ≤ (k : Int) ∧ (k : Int) < (r.length : Int) := by omega
  have hat : okAt bl.length i r k ↔ (0 ≤ r.getD k 0 ∧ r.getD k 0 < (bl.length : Int) ∧ r.getD k 0 ≠ (i : Int) ∧ (0 < k → r.getD (k - 1) 0 < r.getD k 0)) := Iff.rfl
  have hne : ¬ okAt bl.length i r k → decide (blocksP ⟨bl, nx, sp, rb, cq, ca, cd, cp⟩) = false := fun h => hbad (fun hp => h (hp k hkt))
  have hyes : okAt bl.length i r k → ∀ j, j < k + 1 → okAt bl.length i r j := fun h j hj => by
    rcases Nat.lt_succ_iff_lt_or_eq.1 hj with h4 | rfl
    · exact hok j h4
    · exact h
  rcases k with _ | m
  · have hz0 : (0 : Int) < (r.length : Int) := by omega
    have hwz : IntKind.i64.wrap (0 + 1) = 1 := rfl
    generalize r.getD 0 0 = y at hgk hat
    cases c1 : decide (y < 0)
    rotate_left
    · simp only [go_sem, encG_len, encK_len, encI_len, Nt.cs, Int.toNat_natCast, hgi, hi0, hi1, hgk, hz0, c1]
      rw [hne (fun hp => by have := hat.1 hp; simp at c1; omega)]
    cases c2 : decide ((bl.length : Int) ≤ y)
    rotate_left
    · simp only [go_sem, encG_len, encK_len, encI_len, Nt.cs, Int.toNat_natCast, hgi, hi0, hi1, hgk, hz0, c1, c2]
      rw [hne (fun hp => by have := hat.1 hp; simp at c2; omega)]
    cases c3 : decide (y = (i : Int))
    rotate_left
    · simp only [go_sem, encG_len, encK_len, encI_len, Nt.cs, Int.toNat_natCast, hgi, hi0, hi1, hgk, hz0, c1, c2, c3]
      rw [hne (fun hp => by have := hat.1 hp; simp at c3; omega)]
    simp only [go_sem, encG_len, encK_len, encI_len, Nt.cs, Int.toNat_natCast, hgi, hi0, hi1, hgk, hz0, c1, c2, c3, hwz]
    refine ih2 (0 + 1) _ ⟨hkt, hyes (hat.2 (by simp at c1 c2 c3; exact ⟨by omega, by omega, c3, fun h => absurd h (Nat.lt_irrefl _)⟩))⟩ (by omega) ?_
    (refine Wk.forget ?_; simp [Le, LeE, LeH, get, envIds, hpIds, KeepH, D.ids, idsL, AO.ids, setL, base, Nt.cs]; done)
  · have hmt : m < r.length := by omega
    have hgm := encI_get r m hmt
    have hm0 : (0 : Int) ≤ (m : Int) ∧ (m : Int) < (r.length : Int) := by omega
    have hwp := wrap_pred m (by omega)
    have hkp : (0 : Int) < ((m + 1 : Nat) : Int) := by omega
    rw [show m + 1 - 1 = m from rfl] at hat
    generalize r.getD (m + 1) 0 = y at hgk hat
    generalize r.getD m 0 = z at hgm hat
    cases c1 : decide (y < 0)
    rotate_left
    · simp only [go_sem, encG_len, encK_len, encI_len, Nt.cs, Int.toNat_natCast, hgi, hi0, hi1, hgk, hk0, c1]
      rw [hne (fun hp => by have := hat.1 hp; simp at c1; omega)]
    cases c2 : decide ((bl.length : Int) ≤ y)
    rotate_left
    · simp only [go_sem, encG_len, encK_len, encI_len, Nt.cs, Int.toNat_natCast, hgi, hi0, hi1, hgk, hk0, c1, c2]
      rw [hne (fun hp => by have := hat.1 hp; simp at c2; omega)]
    cases c3 : decide (y = (i : Int))
    rotate_left
    · simp only [go_sem, encG_len, encK_len, encI_len, Nt.cs, Int.toNat_natCast, hgi, hi0, hi1, hgk, hk0, c1, c2, c3]
      rw [hne (fun hp => by have := hat.1 hp; simp at c3; omega)]
    cases c4 : decide (y ≤ z)
    rotate_left
    · simp only [go_sem, encG_len, encK_len, encI_len, Nt.cs, Int.toNat_natCast, hgi, hi0, hi1, hgk, hk0, hgm, hm0, hwp, hkp, c1, c2, c3, c4]
      rw [hne (fun hp => by have := (hat.1 hp).2.2.2 (by omega); simp at c4; omega)]
    simp only [go_sem, encG_len, encK_len, encI_len, Nt.cs, Int.toNat_natCast, hgi, hi0, hi1, hgk, hk0, hgm, hm0, hwp, hkp, c1, c2, c3, c4, hwk]
    refine ih2 (m + 1 + 1) _ ⟨hkt, hyes (hat.2 (by simp at c1 c2 c3 c4; exact ⟨by omega, by omega, c3, fun _ => by omega⟩))⟩ (by omega) ?_
    (refine Wk.forget ?_; simp [Le, LeE, LeH, get, envIds, hpIds, KeepH, D.ids, idsL, AO.ids, setL, base, Nt.cs]; done)
end Go.Am
end
section
namespace Go.Am
open Go Go.Proofs
set_option maxRecDepth 100000
set_option linter.unusedVariables false
set_option linter.unusedSimpArgs false
def namesN (n : Nt) : List (List UInt8) := n.blocks.map Blk.name ++ n.spurs.map Spr.name
def namesP (n : Nt) : Prop := ∀ i, i < (namesN n).length → nameB ((namesN n).getD i []) = true ∧ ∀ k, k < i → (namesN n).getD i [] ≠ (namesN n).getD k []
instance (n : Nt) : Decidable (namesP n) := by unfold namesP; exact inferInstance
theorem take_map_snoc {α β : Type} (f : α → β) (l : List α) (i : Nat) (x : α) (h : i < l.length) : (l.take (i + 1)).map f = (l.take i).map f ++ [f (l.getD i x)] := by
  rw [List.take_add_one, List.map_append, List.getD, List.getElem?_eq_getElem h]; rfl
theorem names_ok (n : Nt) (hb : n.blocks.length ≤ 10000000) (hs : n.spurs.length ≤ 10000000) : ACalls Try.prog 29 [.agg n.cs] [] fun h r => h = [] ∧ r = .p (.bool (decide (namesP n))) := by
  generalize hL : namesN n = L
  have hLl : L.length = n.blocks.length + n.spurs.length := by rw [← hL]; simp [namesN]
  refine ACalls_X Try.func29 rfl enters29 (by simp [Try.f29]) ?_
  simp only [go_sem, Nt.cs]
  refine X_loop_inv (fun i : Nat => ⟨[(1, .ptr 1 0), (3, .ref 23 0 i i), (4, .p (.int .i64 (i : Nat)))], [(1, .box (Nt.cs n)), (23, .arr 9 1 (encS ((n.blocks.take i).map Blk.name)))], 66⟩) (fun i => i ≤ n.blocks.length) (fun i => n.blocks.length - i) 0 (Nat.zero_le _) ((Wk.nil (t := 3) (q := 23) (sz := 1) 9 rfl rfl (by decide)).trans (Wk.forget (by simp [Le, LeE, LeH, get, envIds, hpIds, KeepH, D.ids, idsL, AO.ids, setL, base, Nt.cs, encS]))) ?_
  rintro i m hi ih
  have hll : (encS ((n.blocks.take i).map Blk.name)).length = i := by rw [encS_len]; simp; omega
  simp only [go_sem, Nt.cs, encK_len]
  refine Cn_split (fun h2 => ?_) (fun h2 => ?_)
  · have hlt : i < n.blocks.length := by simp at h2; omega
    have hw := wrap_succ i (by omega)
    have hgb := encK_get n.blocks i hlt
    have hi0 : (0 : Int) ≤ (i : Int) ∧ (i : Int) < (n.blocks.length : Int) := by omega
    simp only [go_sem, encK_len, Nt.cs, Int.toNat_natCast, hgb, hi0, hll]
    refine ⟨⟨wid1 _ _ rfl, by omega⟩, ?_⟩
    simp only [go_sem, hw]
    refine ih (i + 1) _ hlt (by omega) ?_
    (refine Wk.forget ?_; simp [Le, LeE, LeH, get, envIds, hpIds, KeepH, D.ids, idsL, AO.ids, setL, base, Nt.cs, take_map_snoc Blk.name n.blocks i blk0 hlt, encS_snoc, hll, -List.map_take]; done)
  have : i = n.blocks.length := by simp at h2; omega
  subst this
  clear ih hll
  simp only [go_sem]
  refine X_loop_inv (fun i : Nat => ⟨[(1, .ptr 1 0), (3, .ref 23 0 (n.blocks.length + i) (n.blocks.length + i)), (5, .p (.int .i64 (i : Nat)))], [(1, .box (Nt.cs n)), (23, .arr 9 1 (encS (n.blocks.map Blk.name ++ (n.spurs.take i).map Spr.name)))], 66⟩) (fun i => i ≤ n.spurs.length) (fun i => n.spurs.length - i) 0 (Nat.zero_le _) (Wk.forget (by simp [Le, LeE, LeH, get, envIds, hpIds, KeepH, D.ids, idsL, AO.ids, setL, base, Nt.cs, encS])) ?_
  rintro i m2 hi2 ih
  have hll : (encS (n.blocks.map Blk.name ++ (n.spurs.take i).map Spr.name)).length = n.blocks.length + i := by rw [encS_len]; simp; omega
  simp only [go_sem, Nt.cs, encP_len]
  refine Cn_split (fun h2 => ?_) (fun h2 => ?_)
  · have hlt : i < n.spurs.length := by simp at h2; omega
    have hw := wrap_succ i (by omega)
    have hgb := encP_get n.spurs i hlt
    have hi0 : (0 : Int) ≤ (i : Int) ∧ (i : Int) < (n.spurs.length : Int) := by omega
    simp only [go_sem, encP_len, Nt.cs, Int.toNat_natCast, hgb, hi0, hll]
    refine ⟨⟨wid1 _ _ rfl, by omega⟩, ?_⟩
    simp only [go_sem, hw]
    refine ih (i + 1) _ hlt (by omega) ?_
    (refine Wk.forget ?_; simp [Le, LeE, LeH, get, envIds, hpIds, KeepH, D.ids, idsL, AO.ids, setL, base, Nt.cs, take_map_snoc Spr.name n.spurs i spr0 hlt, encS_snoc, ← List.append_assoc, Nat.add_assoc, hll, -List.map_take]; done)
  have : i = n.spurs.length := by simp at h2; omega
  subst this
  clear ih hll
  rw [List.take_length, show n.blocks.map Blk.name ++ n.spurs.map Spr.name = L from hL, ← hLl]
  simp only [go_sem]
  have hP : namesP n ↔ ∀ i, i < L.length → nameB (L.getD i []) = true ∧ ∀ k, k < i → L.getD i [] ≠ L.getD k [] := by unfold namesP; rw [hL]
  refine X_loop_inv (fun i : Nat => ⟨[(3, .ref 23 0 L.length L.length), (6, .p (.int .i64 (i : Nat)))], [(23, .arr 9 1 (encS L))], 66⟩) (fun i => i ≤ L.length ∧ ∀ j, j < i → nameB (L.getD j []) = true ∧ ∀ k, k < j → L.getD j [] ≠ L.getD k []) (fun i => L.length - i) 0 ⟨Nat.zero_le _, fun j hj => absurd hj (Nat.not_lt_zero _)⟩ (Wk.forget (by simp [Le, LeE, LeH, get, envIds, hpIds, KeepH, D.ids, idsL, AO.ids, setL, base, Nt.cs, encS])) ?_
  rintro i m3 ⟨hi3, hall⟩ ih
  simp only [go_sem, encS_len]
  refine Cn_split (fun h3 => ?_) (fun h3 => ?_)
  rotate_left
  · simp only [go_sem]
    have : i = L.length := by simp at h3; omega
    subst this
    rw [decide_eq_true (hP.2 hall)]
    try simp
  have hlt : i < L.length := by simp at h3; omega
  have hw := wrap_succ i (by omega)
  have hgi := encS_get L i hlt
  have hi0 : (0 : Int) ≤ (i : Int) ∧ (i : Int) < (L.length : Int) := by omega
  simp only [go_sem, encS_len, Int.toNat_natCast, hgi, hi0]
  refine Cc_of ((name2_ok _)) ?_
  rintro h' r ⟨rfl, rfl⟩
  cases hn : nameB (L.getD i [])
  · simp only [go_sem, hn]
    rw [decide_eq_false (fun hp => by have := (hP.1 hp i hlt).1; rw [hn] at this; cases this)]
    try simp
  simp only [go_sem, hn]
  refine X_loop_inv (fun k : Nat => ⟨[(3, .ref 23 0 L.length L.length), (6, .p (.int .i64 (i : Nat))), (7, .p (.int .i64 (k : Nat)))], [(23, .arr 9 1 (encS L))], 66⟩) (fun k => k ≤ i ∧ ∀ j, j < k → L.getD i [] ≠ L.getD j []) (fun k => i - k) 0 ⟨Nat.zero_le _, fun j hj => absurd hj (Nat.not_lt_zero _)⟩ (Wk.forget (by simp [Le, LeE, LeH, get, envIds, hpIds, KeepH, D.ids, idsL, AO.ids, setL, base, encS])) ?_
  rintro k m4 ⟨hk, hne⟩ ih2
  simp only [go_sem]
  refine Cn_split (fun h4 => ?_) (fun h4 => ?_)
  · have hkt : k < i := by simp at h4; omega
    have hwk := wrap_succ k (by omega)
    have hgk := encS_get L k (by omega)
    have hk0 : (0 : Int) ≤ (k : Int) ∧ (k : Int) < (L.length : Int) := by omega
    simp only [go_sem]
    refine X_any [(23, .arr 9 1 (encS L))] mixed (p := [(0, 0), (1, 0), (2, 0), (3, 0), (4, 0), (5, 0), (6, 0), (7, 0), (8, 0)]) (by kernel_rfl) (by simp [LeH, get]) ?_
    simp only [go_sem, encS_len, Int.toNat_natCast, hgi, hi0, hgk, hk0]
    cases he : decide (L.getD i [] = L.getD k [])
    · simp only [go_sem, he, hwk]
      refine ih2 (k + 1) _ ⟨hkt, fun j hj => ?_⟩ (by omega) ?_
      · rcases Nat.lt_succ_iff_lt_or_eq.1 hj with h5 | rfl
        · exact hne j h5
        · exact of_decide_eq_false he
      · (refine Wk.forget ?_; simp [Le, LeE, LeH, get, envIds, hpIds, KeepH, D.ids, idsL, AO.ids, setL, base]; done)
    · simp only [go_sem, he]
      rw [decide_eq_false (fun hp => (hP.1 hp i hlt).2 k hkt (of_decide_eq_true he))]
      try simp
  · have : k = i := by simp at h4; omega
    subst this
    simp only [go_sem, hw]
    refine ih (k + 1) _ ⟨hlt, fun j hj => ?_⟩ (by omega) ?_
    · rcases Nat.lt_succ_iff_lt_or_eq.1 hj with h5 | rfl
      · exact hall j h5
      · exact ⟨hn, hne⟩
    · (refine Wk.forget ?_; simp [Le, LeE, LeH, get, envIds, hpIds, KeepH, D.ids, idsL, AO.ids, setL, base]; done)
def cfgP (cq ca cd cp : Int) : Prop := 1 ≤ cq ∧ cq ≤ 8 ∧ 0 ≤ ca ∧ ca ≤ 4 ∧ 0 ≤ cd ∧ cd ≤ 3 ∧ 1 ≤ cp ∧ cp ≤ 16
instance (cq ca cd cp : Int) : Decidable (cfgP cq ca cd cp) := by unfold cfgP; exact inferInstance
theorem configured_ok (cq ca cd cp : Int) : ACalls Try.prog 30 [.agg [.p (.int .i64 cq), .p (.int .i64 ca), .p (.int .i64 cd), .p (.int .i64 cp)]] [] fun h r => h = [] ∧ r = .p (.bool (decide (cfgP cq ca cd cp))) := by
  refine ACalls_X Try.func30 rfl enters30 (by simp [Try.f30]) ?_
  by_cases h1 : 1 ≤ cq
  rotate_left
  · simp only [go_sem, h1]; simp [cfgP, h1]
  by_cases h2 : cq ≤ 8
  rotate_left
  · simp only [go_sem, h1, h2]; simp [cfgP, h2]
  by_cases h3 : 0 ≤ ca
  rotate_left
  · simp only [go_sem, h1, h2, h3]; simp [cfgP, h3]
  by_cases h4 : ca ≤ 4
  rotate_left
  · simp only [go_sem, h1, h2, h3, h4]; simp [cfgP, h4]
  by_cases h5 : 0 ≤ cd
  rotate_left
  · simp only [go_sem, h1, h2, h3, h4, h5]; simp [cfgP, h5]
  by_cases h6 : cd ≤ 3
  rotate_left
  · simp only [go_sem, h1, h2, h3, h4, h5, h6]; simp [cfgP, h6]
  by_cases h7 : 1 ≤ cp
  rotate_left
  · simp only [go_sem, h1, h2, h3, h4, h5, h6, h7]; simp [cfgP, h7]
  by_cases h8 : cp ≤ 16
  · simp only [go_sem, h1, h2, h3, h4, h5, h6, h7, h8]; simp [cfgP, h1, h2, h3, h4, h5, h6, h7, h8]
  · simp only [go_sem, h1, h2, h3, h4, h5, h6, h7, h8]; simp [cfgP, h8]
end Go.Am
end
section
namespace Go.Am
open Go Go.Proofs
set_option maxRecDepth 100000
set_option linter.unusedVariables false
set_option linter.unusedSimpArgs false
theorem encT_len (l : List Bool) : (encT l).length = l.length := by simp [encT]
theorem getD_set {α : Type} (l : List α) (i j : Nat) (x y : α) : (l.set i x).getD j y = if i = j ∧ i < l.length then x else l.getD j y := by
  simp only [List.getD, List.getElem?_set]
  by_cases h : i = j
  · subst h
    by_cases h2 : i < l.length
    · simp [h2]
    · simp [h2]
  · simp [h]
def vStep (g : List (List Int)) (sh : List Bool) (d : Int) (v : Nat) (o : List Int) : List Int :=
  if sh.getD v false = true ∨ 0 ≤ o.getD v 0 then o else if (g.getD v []).any (fun w => decide (o.getD w.toNat 0 = d - 1)) = true then o.set v d else o
def vLoop (g : List (List Int)) (sh : List Bool) (d : Int) : Nat → Nat → List Int → List Int
  | 0, _, o => o
  | f + 1, v, o => vLoop g sh d f (v + 1) (vStep g sh d v o)
def dLoop (g : List (List Int)) (sh : List Bool) : Nat → Nat → List Int → List Int
  | 0, _, o => o
  | f + 1, d, o => dLoop g sh f (d + 1) (vLoop g sh d g.length 0 o)
def distV (g : List (List Int)) (sh : List Bool) (goal : Nat) : List Int :=
  if sh.getD goal false = true then List.replicate g.length (-1) else dLoop g sh (g.length - 1) 1 ((List.replicate g.length (-1)).set goal 0)
theorem vStep_len (g : List (List Int)) (sh : List Bool) (d : Int) (v : Nat) (o : List Int) : (vStep g sh d v o).length = o.length := by
  unfold vStep; split
  · rfl
  · split <;> simp
theorem vLoop_len (g : List (List Int)) (sh : List Bool) (d : Int) : ∀ (f v : Nat) (o : List Int), (vLoop g sh d f v o).length = o.length
  | 0, _, _ => rfl
  | f + 1, v, o => by rw [vLoop, vLoop_len g sh d f, vStep_len]
theorem dLoop_len (g : List (List Int)) (sh : List Bool) : ∀ (f d : Nat) (o : List Int), (dLoop g sh f d o).length = o.length
  | 0, _, _ => rfl
  | f + 1, d, o => by rw [dLoop, dLoop_len g sh f, vLoop_len]
theorem distV_len (g : List (List Int)) (sh : List Bool) (goal : Nat) : (distV g sh goal).length = g.length := by
  unfold distV; split
  · simp
  · rw [dLoop_len]; simp
def DP (g : List (List Int)) (goal : Nat) (m : Int) (o : List Int) : Prop :=
  o.length = g.length ∧ ∀ v, v < g.length → o.getD v 0 = -1 ∨ (o.getD v 0 = 0 ∧ v = goal) ∨ (1 ≤ o.getD v 0 ∧ o.getD v 0 ≤ m ∧ ∃ w ∈ g.getD v [], o.getD w.toNat 0 = o.getD v 0 - 1)
theorem vStep_DP {g : List (List Int)} (hg : gphP g) {sh : List Bool} {goal : Nat} {d : Int} {v : Nat} {o : List Int} (hv : v < g.length) (hd : 1 ≤ d) (h : DP g goal d o) : DP g goal d (vStep g sh d v o) := by
  unfold vStep
  split
  · exact h
  rename_i h1
  split
  · rename_i h2
    obtain ⟨hl, hh⟩ := h
    have hneg : o.getD v 0 < 0 := by
      rcases Int.lt_or_le (o.getD v 0) 0 with h3 | h3
      · exact h3
      · exact absurd (Or.inr h3) h1
    refine ⟨by simpa using hl, fun u hu => ?_⟩
    rw [List.any_eq_true] at h2
    obtain ⟨w, hw, hwd⟩ := h2
    have hwd := of_decide_eq_true hwd
    have hset : ∀ j, j < g.length → (o.set v d).getD j 0 = if v = j then d else o.getD j 0 := fun j hj => by
      rw [getD_set]
      by_cases e : v = j
      · rw [if_pos ⟨e, by omega⟩, if_pos e]
      · rw [if_neg (fun h => e h.1), if_neg e]
    have hin : ∀ u, u < g.length → ∀ w ∈ g.getD u [], 0 ≤ w ∧ w < (g.length : Int) ∧ w ≠ (u : Int) := fun u hu w hw => by
      obtain ⟨k, hk, rfl⟩ := List.mem_iff_getElem.1 hw
      have := hg.2 u hu k hk
      unfold okAt at this
      have e1 : (g.getD u []).getD k 0 = (g.getD u [])[k] := getD_eq hk
      rw [e1] at this
      exact ⟨this.1, this.2.1, this.2.2.1⟩
    rw [hset u hu]
    by_cases e : v = u
    · subst e
      rw [if_pos rfl]
      have h3 := hin v hv w hw
      refine .inr (.inr ⟨hd, Int.le_refl _, w, hw, ?_⟩)
      rw [hset _ (by omega), if_neg (by omega)]
      exact hwd
    · rw [if_neg e]
      rcases hh u hu with h3 | h3 | ⟨h3, h4, w2, h5, h6⟩
      · exact .inl h3
      · exact .inr (.inl h3)
      · refine .inr (.inr ⟨h3, h4, w2, h5, ?_⟩)
        have h7 := hin u hu w2 h5
        rw [hset _ (by omega)]
        by_cases e2 : v = w2.toNat
        · rw [e2] at hneg; omega
        · rw [if_neg e2]; exact h6
  · exact h
theorem vLoop_DP {g : List (List Int)} (hg : gphP g) {sh : List Bool} {goal : Nat} {d : Int} (hd : 1 ≤ d) : ∀ (f v : Nat) (o : List Int), v + f ≤ g.length → DP g goal d o → DP g goal d (vLoop g sh d f v o)
  | 0, _, _, _, h => h
  | f + 1, v, o, hv, h => vLoop_DP hg hd f (v + 1) _ (by omega) (vStep_DP hg (by omega) hd h)
theorem DP.mono {g : List (List Int)} {goal : Nat} {m m' : Int} {o : List Int} (hm : m ≤ m') (h : DP g goal m o) : DP g goal m' o :=
  ⟨h.1, fun v hv => by
    rcases h.2 v hv with h3 | h3 | ⟨h3, h4, h5⟩
    · exact .inl h3
    · exact .inr (.inl h3)
    · exact .inr (.inr ⟨h3, by omega, h5⟩)⟩
theorem dLoop_DP {g : List (List Int)} (hg : gphP g) {sh : List Bool} {goal : Nat} : ∀ (f d : Nat) (o : List Int), 1 ≤ d → DP g goal d o → DP g goal (d + f : Nat) (dLoop g sh f d o)
  | 0, d, o, _, h => h.mono (by omega)
  | f + 1, d, o, hd, h => by
    have := dLoop_DP (sh := sh) hg f (d + 1) (vLoop g sh d g.length 0 o) (by omega) ((vLoop_DP hg (by omega) g.length 0 o (by omega) h).mono (by omega))
    rw [show d + 1 + f = d + (f + 1) by omega] at this
    exact this
theorem distV_DP {g : List (List Int)} (hg : gphP g) (sh : List Bool) (goal : Nat) (hgoal : goal < g.length) : DP g goal 24 (distV g sh goal) := by
  have hrep : ∀ v, v < g.length → (List.replicate g.length (-1 : Int)).getD v 0 = -1 := fun v hv => by simp [List.getD, hv]
  unfold distV
  split
  · exact ⟨by simp, fun v hv => .inl (hrep v hv)⟩
  · refine (dLoop_DP hg (g.length - 1) 1 _ (Nat.le_refl _) ⟨by simp, fun v hv => ?_⟩).mono (by have := hg.1; omega)
    rw [getD_set]
    by_cases e : goal = v
    · rw [if_pos ⟨e, by simpa using hgoal⟩]; exact .inr (.inl ⟨rfl, e.symm⟩)
    · rw [if_neg (fun h => e h.1)]; exact .inl (hrep v hv)
theorem row_in {g : List (List Int)} (hg : gphP g) {u : Nat} (hu : u < g.length) {k : Nat} (hk : k < (g.getD u []).length) : ∃ w : Nat, (g.getD u []).getD k 0 = (w : Int) ∧ w < g.length ∧ w ≠ u := by
  have := hg.2 u hu k hk
  unfold okAt at this
  exact ⟨((g.getD u []).getD k 0).toNat, by omega, by omega, by omega⟩
end Go.Am
end
section
namespace Go.Am
open Go Go.Proofs
set_option maxRecDepth 100000
set_option linter.unusedVariables false
set_option linter.unusedSimpArgs false
def sumS : List Spr → Int
  | [] => 0
  | s :: r => s.slots + sumS r
theorem sumS_snoc (l : List Spr) (s : Spr) : sumS (l ++ [s]) = sumS l + s.slots := by
  induction l with
  | nil => simp [sumS]
  | cons x r ih => simp only [List.cons_append, sumS, ih]; omega
def spurP (nb : Nat) (b : Int) (s : Spr) : Prop := 0 ≤ s.inn ∧ s.inn < (nb : Int) ∧ 0 ≤ s.out ∧ s.out < (nb : Int) ∧ 1 ≤ s.slots ∧ s.slots ≤ 4 ∧ s.base = b
instance (nb : Nat) (b : Int) (s : Spr) : Decidable (spurP nb b s) := by unfold spurP; exact inferInstance
def inD (x : Int) (s : Spr) : Bool := s.depot && (decide (s.base ≤ x) && decide (x < s.base + s.slots))
def spursP (nb : Nat) (l : List Spr) : Prop := ∀ i, i < l.length → spurP nb (nb + sumS (l.take i)) (l.getD i spr0)
instance (nb : Nat) (l : List Spr) : Decidable (spursP nb l) := by unfold spursP; exact inferInstance
def robotsP (sp : List Spr) (l : List Int) : Prop := ∀ i, i < l.length → sp.any (inD (l.getD i 0)) = true ∧ l.getD i 0 ∉ l.take i
instance (sp : List Spr) (l : List Int) : Decidable (robotsP sp l) := by unfold robotsP; exact inferInstance
def validN (n : Nt) : Prop := blocksP n ∧ n.spurs.length ≤ 6 ∧ namesP n ∧ n.robots.length ≤ 8 ∧ cfgP n.cq n.ca n.cd n.cp ∧ spursP n.blocks.length n.spurs ∧ robotsP n.spurs n.robots ∧ 0 < (n.spurs.filter Spr.depot).length
instance (n : Nt) : Decidable (validN n) := by unfold validN; exact inferInstance
theorem sumS_rng (nb : Nat) (l : List Spr) (k : Nat) (hk : k ≤ l.length) (h : ∀ j, j < k → spurP nb (nb + sumS (l.take j)) (l.getD j spr0)) : 0 ≤ sumS (l.take k) ∧ sumS (l.take k) ≤ 4 * k := by
  induction k with
  | zero => simp [sumS]
  | succ k ih =>
    have h1 := ih (by omega) (fun j hj => h j (by omega))
    have h2 := h k (by omega)
    rw [take_snoc l k spr0 (by omega), sumS_snoc]
    obtain ⟨_, _, _, _, h5, h6, _⟩ := h2
    omega
def smallN (n : Nt) : Prop := n.blocks.length ≤ 10000000 ∧ smallG n.next ∧ n.spurs.length ≤ 10000000 ∧ n.robots.length ≤ 10000000
set_option maxHeartbeats 1600000 in
theorem validN_ok (n : Nt) (hsm : smallN n) : ACalls Try.prog 15 [.agg n.cs] [] fun h r => h = [] ∧ r = .p (.bool (decide (validN n))) := by
  have hB := blocks_ok n hsm.1 hsm.2.1
  have hN := names_ok n hsm.1 hsm.2.2.1
  have hC := configured_ok n.cq n.ca n.cd n.cp
  obtain ⟨_, _, hs1, hr1⟩ := hsm
  refine ACalls_X Try.func15 rfl enters15 (by simp [Try.f15]) ?_
  simp only [go_sem, Nt.cs]
  refine Cc_of ((hB)) ?_
  rintro h' r ⟨rfl, rfl⟩
  cases d1 : decide (blocksP n)
  · simp only [go_sem, d1]
    rw [decide_eq_false (fun hp => of_decide_eq_false d1 hp.1)]
  cases d2 : decide (6 < (n.spurs.length : Int))
  rotate_left
  · simp only [go_sem, Nt.cs, encP_len, d1, d2]
    rw [decide_eq_false (fun hp => by have := hp.2.1; have := of_decide_eq_true d2; omega)]
  simp only [go_sem, Nt.cs, encP_len, d1, d2]
  refine Cc_of ((hN)) ?_
  rintro h' r ⟨rfl, rfl⟩
  cases d3 : decide (namesP n)
  · simp only [go_sem, d3]
    rw [decide_eq_false (fun hp => of_decide_eq_false d3 hp.2.2.1)]
  cases d4 : decide (8 < (n.robots.length : Int))
  rotate_left
  · simp only [go_sem, Nt.cs, encI_len, d3, d4]
    rw [decide_eq_false (fun hp => by have := hp.2.2.2.1; have := of_decide_eq_true d4; omega)]
  simp only [go_sem, Nt.cs, encI_len, d3, d4]
  refine Cc_of ((hC)) ?_
  rintro h' r ⟨rfl, rfl⟩
  cases d5 : decide (cfgP n.cq n.ca n.cd n.cp)
  · simp only [go_sem, d5]
    rw [decide_eq_false (fun hp => of_decide_eq_false d5 hp.2.2.2.2.1)]
  simp only [go_sem, Nt.cs, encK_len, d5]
  clear hB hN hC
  have e1 := of_decide_eq_true d1
  have e2 := of_decide_eq_false d2
  have e3 := of_decide_eq_true d3
  have e4 := of_decide_eq_false d4
  have e5 := of_decide_eq_true d5
  clear d1 d2 d3 d4 d5
  have hb24 : n.blocks.length ≤ 24 := e1.2.1
  refine X_loop_inv (fun i : Nat => ⟨[(1, .ptr 1 0), (3, .p (.int .i64 ((n.blocks.length : Int) + sumS (n.spurs.take i)))), (4, .p (.int .i64 (((n.spurs.take i).filter Spr.depot).length : Nat))), (5, .p (.int .i64 (i : Nat)))], [(1, .box (Nt.cs n))], 163⟩)
    (fun i => i ≤ n.spurs.length ∧ ∀ j, j < i → spurP n.blocks.length (n.blocks.length + sumS (n.spurs.take j)) (n.spurs.getD j spr0)) (fun i => n.spurs.length - i) 0 ⟨Nat.zero_le _, fun j hj => absurd hj (Nat.not_lt_zero _)⟩ (Wk.forget (by simp [Le, LeE, LeH, get, envIds, hpIds, KeepH, D.ids, idsL, AO.ids, setL, base, Nt.cs, sumS])) ?_
  rintro i m ⟨hi, hall⟩ ih
  simp only [go_sem, Nt.cs, encP_len]
  refine Cn_split (fun h2 => ?_) (fun h2 => ?_)
  · have hlt : i < n.spurs.length := by simp at h2; omega
    have hw := wrap_succ i (by omega)
    have hg := encP_get n.spurs i hlt
    have hi0 : (0 : Int) ≤ (i : Int) ∧ (i : Int) < (n.spurs.length : Int) := by omega
    have hrng := sumS_rng n.blocks.length n.spurs i hi hall
    have hbad : ¬ spurP n.blocks.length (n.blocks.length + sumS (n.spurs.take i)) (n.spurs.getD i spr0) → decide (validN n) = false := fun h => decide_eq_false (fun hp => h (hp.2.2.2.2.2.1 i hlt))
    have hgood : spurP n.blocks.length (n.blocks.length + sumS (n.spurs.take i)) (n.spurs.getD i spr0) → ∀ j, j < i + 1 → spurP n.blocks.length (n.blocks.length + sumS (n.spurs.take j)) (n.spurs.getD j spr0) := fun h j hj => by
      rcases Nat.lt_succ_iff_lt_or_eq.1 hj with h3 | rfl
      · exact hall j h3
      · exact h
    have hts := take_snoc n.spurs i spr0 hlt
    have hfl : ((n.spurs.take i).filter Spr.depot).length ≤ i := by
      refine Nat.le_trans (List.length_filter_le _ _) ?_
      simp; omega
    generalize n.spurs.getD i spr0 = s at *
    obtain ⟨nm, dp, inn, out, sl, bs⟩ := s
    simp only [spurP] at hbad hgood
    generalize hS : sumS (n.spurs.take i) = S at *
    generalize hD : ((n.spurs.take i).filter Spr.depot).length = dn at *
    cases c1 : decide (inn < 0)
    rotate_left
    · simp only [go_sem, Nt.cs, encP_len, encK_len, Int.toNat_natCast, hg, hi0, c1]
      rw [hbad (fun hp => by have := of_decide_eq_true c1; omega)]
    cases c2 : decide ((n.blocks.length : Int) ≤ inn)
    rotate_left
    · simp only [go_sem, Nt.cs, encP_len, encK_len, Int.toNat_natCast, hg, hi0, c1, c2]
      rw [hbad (fun hp => by have := of_decide_eq_true c2; omega)]
    cases c3 : decide (out < 0)
    rotate_left
    · simp only [go_sem, Nt.cs, encP_len, encK_len, Int.toNat_natCast, hg, hi0, c1, c2, c3]
      rw [hbad (fun hp => by have := of_decide_eq_true c3; omega)]
    cases c4 : decide ((n.blocks.length : Int) ≤ out)
    rotate_left
    · simp only [go_sem, Nt.cs, encP_len, encK_len, Int.toNat_natCast, hg, hi0, c1, c2, c3, c4]
      rw [hbad (fun hp => by have := of_decide_eq_true c4; omega)]
    cases c5 : decide (sl < 1)
    rotate_left
    · simp only [go_sem, Nt.cs, encP_len, encK_len, Int.toNat_natCast, hg, hi0, c1, c2, c3, c4, c5]
      rw [hbad (fun hp => by have := of_decide_eq_true c5; omega)]
    cases c6 : decide (4 < sl)
    rotate_left
    · simp only [go_sem, Nt.cs, encP_len, encK_len, Int.toNat_natCast, hg, hi0, c1, c2, c3, c4, c5, c6]
      rw [hbad (fun hp => by have := of_decide_eq_true c6; omega)]
    cases c7 : decide (bs = (n.blocks.length : Int) + S)
    · simp only [go_sem, Nt.cs, encP_len, encK_len, Int.toNat_natCast, hg, hi0, c1, c2, c3, c4, c5, c6, c7]
      rw [hbad (fun hp => by have := of_decide_eq_false c7; omega)]
    have hsl : 1 ≤ sl ∧ sl ≤ 4 := by have := of_decide_eq_false c5; have := of_decide_eq_false c6; omega
    have hwb : IntKind.i64.wrap ((n.blocks.length : Int) + S + sl) = (n.blocks.length : Int) + S + sl := by rw [wrap_i64_id] <;> omega
    have hok := hgood (by have := of_decide_eq_false c1; have := of_decide_eq_false c2; have := of_decide_eq_false c3; have := of_decide_eq_false c4; have := of_decide_eq_true c7; omega)
    have hwd := wrap_succ dn (by omega)
    cases dp
    · simp only [go_sem, Nt.cs, encP_len, encK_len, Int.toNat_natCast, hg, hi0, c1, c2, c3, c4, c5, c6, c7, hwb, hw]
      refine ih (i + 1) _ ⟨hlt, hok⟩ (by omega) ?_
      (refine Wk.forget ?_; simp [Le, LeE, LeH, get, envIds, hpIds, KeepH, D.ids, idsL, AO.ids, setL, base, Nt.cs, hts, sumS_snoc, hS, hD, Int.add_assoc]; done)
    · simp only [go_sem, Nt.cs, encP_len, encK_len, Int.toNat_natCast, hg, hi0, c1, c2, c3, c4, c5, c6, c7, hwb, hw, hwd]
      refine ih (i + 1) _ ⟨hlt, hok⟩ (by omega) ?_
      (refine Wk.forget ?_; simp [Le, LeE, LeH, get, envIds, hpIds, KeepH, D.ids, idsL, AO.ids, setL, base, Nt.cs, hts, sumS_snoc, hS, hD, Int.add_assoc]; done)
  have : i = n.spurs.length := by simp at h2; omega
  subst this
  have hsp : spursP n.blocks.length n.spurs := hall
  rw [List.take_length]
  have hbnd : ∀ k, k < n.spurs.length → 0 ≤ (n.spurs.getD k spr0).base ∧ (n.spurs.getD k spr0).base ≤ 1000 ∧ 1 ≤ (n.spurs.getD k spr0).slots ∧ (n.spurs.getD k spr0).slots ≤ 4 := fun k hk => by
    have h3 := hsp k hk
    have h4 := sumS_rng n.blocks.length n.spurs k (by omega) (fun j hj => hsp j (by omega))
    obtain ⟨_, _, _, _, h5, h6, h7⟩ := h3
    omega
  clear ih hall
  generalize hD : (n.spurs.filter Spr.depot).length = dn
  simp only [go_sem]
  refine X_loop_inv (fun i : Nat => ⟨[(1, .ptr 1 0), (4, .p (.int .i64 (dn : Nat))), (7, .p (.int .i64 (i : Nat)))], [(1, .box (Nt.cs n))], 163⟩)
    (fun i => i ≤ n.robots.length ∧ ∀ j, j < i → n.spurs.any (inD (n.robots.getD j 0)) = true ∧ n.robots.getD j 0 ∉ n.robots.take j) (fun i => n.robots.length - i) 0 ⟨Nat.zero_le _, fun j hj => absurd hj (Nat.not_lt_zero _)⟩ (Wk.forget (by simp [Le, LeE, LeH, get, envIds, hpIds, KeepH, D.ids, idsL, AO.ids, setL, base, Nt.cs])) ?_
  rintro i m2 ⟨hi2, hall⟩ ih
  simp only [go_sem, Nt.cs, encI_len]
  refine Cn_split (fun h3 => ?_) (fun h3 => ?_)
  rotate_left
  · simp only [go_sem]
    have : i = n.robots.length := by simp at h3; omega
    subst this
    have hv : decide (validN n) = decide (0 < (dn : Int)) := by
      by_cases hdn : 0 < dn
      · rw [decide_eq_true (show validN n from ⟨e1, by omega, e3, by omega, e5, hsp, hall, by rw [hD]; exact hdn⟩), decide_eq_true (by omega)]
      · rw [decide_eq_false (fun hp : validN n => hdn (by have := hp.2.2.2.2.2.2.2; rw [hD] at this; exact this)), decide_eq_false (by omega)]
    rw [hv]
    try simp
  have hlt : i < n.robots.length := by simp at h3; omega
  have hw := wrap_succ i (by omega)
  have hgr := encI_get n.robots i hlt
  have hi0 : (0 : Int) ≤ (i : Int) ∧ (i : Int) < (n.robots.length : Int) := by omega
  have hbad : ¬ (n.spurs.any (inD (n.robots.getD i 0)) = true ∧ n.robots.getD i 0 ∉ n.robots.take i) → decide (validN n) = false := fun h => decide_eq_false (fun hp => h (hp.2.2.2.2.2.2.1 i hlt))
  have hgood : (n.spurs.any (inD (n.robots.getD i 0)) = true ∧ n.robots.getD i 0 ∉ n.robots.take i) → ∀ j, j < i + 1 → n.spurs.any (inD (n.robots.getD j 0)) = true ∧ n.robots.getD j 0 ∉ n.robots.take j := fun h j hj => by
    rcases Nat.lt_succ_iff_lt_or_eq.1 hj with h3 | rfl
    · exact hall j h3
    · exact h
  generalize n.robots.getD i 0 = x at hgr hbad hgood
  simp only [go_sem]
  refine X_loop_inv (fun k : Nat => ⟨[(1, .ptr 1 0), (4, .p (.int .i64 (dn : Nat))), (7, .p (.int .i64 (i : Nat))), (8, .p (.bool ((n.spurs.take k).any (inD x)))), (9, .p (.int .i64 (k : Nat)))], [(1, .box (Nt.cs n))], 163⟩)
    (fun k => k ≤ n.spurs.length) (fun k => n.spurs.length - k) 0 (Nat.zero_le _) (Wk.forget (by simp [Le, LeE, LeH, get, envIds, hpIds, KeepH, D.ids, idsL, AO.ids, setL, base, Nt.cs])) ?_
  rintro k m3 hk ih2
  simp only [go_sem, Nt.cs, encP_len]
  refine Cn_split (fun h4 => ?_) (fun h4 => ?_)
  · have hkt : k < n.spurs.length := by simp at h4; omega
    have hwk := wrap_succ k (by omega)
    have hgk := encP_get n.spurs k hkt
    have hk0 : (0 : Int) ≤ (k : Int) ∧ (k : Int) < (n.spurs.length : Int) := by omega
    have hb := hbnd k hkt
    have hts := take_snoc n.spurs k spr0 hkt
    generalize n.spurs.getD k spr0 = s at *
    obtain ⟨nm, dp, inn, out, sl, bs⟩ := s
    simp only at hb
    have hwb : IntKind.i64.wrap (bs + sl) = bs + sl := by rw [wrap_i64_id] <;> omega
    have han : (n.spurs.take (k + 1)).any (inD x) = ((n.spurs.take k).any (inD x) || (dp && (decide (bs ≤ x) && decide (x < bs + sl)))) := by
      rw [hts, List.any_append]; simp [inD]
    generalize (n.spurs.take k).any (inD x) = ok at *
    simp only [go_sem, Nt.cs, encP_len, Int.toNat_natCast, hgk, hk0]
    refine X_any0 mixed (p := [(0, 0), (1, 0), (2, 0), (3, 0), (4, 0), (5, 0), (6, 0), (7, 0), (8, 0), (9, 0), (10, 0), (11, 0), (12, 0), (13, 0), (14, 0), (15, 0), (16, 0), (17, 0), (18, 0), (19, 0), (20, 0), (21, 0), (22, 0), (23, 0), (24, 0), (25, 0), (26, 0), (27, 0), (28, 0)]) (by kernel_rfl) (by simp [LeH, get]) ?_
    cases ok
    rotate_left
    · simp only [go_sem, Nt.cs, hwk]
      refine ih2 (k + 1) _ hkt (by omega) ?_
      (refine Wk.forget ?_; simp [Le, LeE, LeH, get, envIds, hpIds, KeepH, D.ids, idsL, AO.ids, setL, base, Nt.cs, han]; done)
    cases dp
    · simp only [go_sem, Nt.cs, hwk]
      refine ih2 (k + 1) _ hkt (by omega) ?_
      (refine Wk.forget ?_; simp [Le, LeE, LeH, get, envIds, hpIds, KeepH, D.ids, idsL, AO.ids, setL, base, Nt.cs, han]; done)
    cases c1 : decide (bs ≤ x)
    · simp only [go_sem, Nt.cs, encI_len, Int.toNat_natCast, hgr, hi0, c1, hwk]
      refine ih2 (k + 1) _ hkt (by omega) ?_
      (refine Wk.forget ?_; simp [Le, LeE, LeH, get, envIds, hpIds, KeepH, D.ids, idsL, AO.ids, setL, base, Nt.cs, han, c1]; done)
    cases c2 : decide (x < bs + sl)
    · simp only [go_sem, Nt.cs, encI_len, Int.toNat_natCast, hgr, hi0, c1, hwb, c2, hwk]
      refine ih2 (k + 1) _ hkt (by omega) ?_
      (refine Wk.forget ?_; simp [Le, LeE, LeH, get, envIds, hpIds, KeepH, D.ids, idsL, AO.ids, setL, base, Nt.cs, han, c1, c2]; done)
    · simp only [go_sem, Nt.cs, encI_len, Int.toNat_natCast, hgr, hi0, c1, hwb, c2, hwk]
      refine ih2 (k + 1) _ hkt (by omega) ?_
      (refine Wk.forget ?_; simp [Le, LeE, LeH, get, envIds, hpIds, KeepH, D.ids, idsL, AO.ids, setL, base, Nt.cs, han, c1, c2]; done)
  have : k = n.spurs.length := by simp at h4; omega
  subst this
  rw [List.take_length]
  simp only [go_sem]
  refine X_any0 mixed (p := [(0, 0), (1, 0), (2, 0), (3, 0), (4, 0), (5, 0), (6, 0), (7, 0), (8, 0), (9, 0), (10, 0), (11, 0), (12, 2), (13, 0)]) (by kernel_rfl) (by simp [LeH, get]) ?_
  cases ho : n.spurs.any (inD x)
  · simp only [go_sem, ho]
    rw [hbad (fun hp => by rw [ho] at hp; cases hp.1)]
  simp only [go_sem, Nt.cs, encI_len, Int.toNat_natCast, hgr, hi0, ho, encI_take2]
  refine ⟨⟨by omega, by simp [Wid, encI]⟩, ?_⟩
  refine Gh_of ((has_ok (n.robots.take i) x (by simp; omega))) ?_
  rintro h' r ⟨rfl, rfl⟩
  cases hh : decide (x ∈ n.robots.take i)
  · simp only [go_sem, hh, hw]
    refine ih (i + 1) _ ⟨hlt, hgood ⟨ho, of_decide_eq_false hh⟩⟩ (by omega) ?_
    (refine Wk.forget ?_; simp [Le, LeE, LeH, get, envIds, hpIds, KeepH, D.ids, idsL, AO.ids, setL, base, Nt.cs]; done)
  · simp only [go_sem, hh]
    rw [hbad (fun hp => hp.2 (of_decide_eq_true hh))]
end Go.Am
end
section
namespace Go.Am
open Go Go.Proofs
set_option maxRecDepth 100000
set_option linter.unusedVariables false
set_option linter.unusedSimpArgs false
theorem any_take_succ {α : Type} (p : α → Bool) (l : List α) (k : Nat) (x : α) (h : k < l.length) : (l.take (k + 1)).any p = ((l.take k).any p || p (l.getD k x)) := by
  rw [take_snoc l k x h, List.any_append]; simp
theorem encI_tail (l : List Int) (i : Nat) : ((encI l)[i]?.getD []).tail = [] := by
  unfold encI
  rw [List.getElem?_map]
  cases l[i]? <;> rfl
set_option maxHeartbeats 800000 in
theorem dist_ok (g : List (List Int)) (sh : List Bool) (goal : Nat) (hg : gphP g) (hsh : sh.length = g.length) (hgoal : goal < g.length) :
    ACalls Try.prog 92 [.p (.sl (encG g)), .p (.sl (encT sh)), .p (.int .i64 (goal : Nat))] [] fun h r => h = [] ∧ r = .p (.sl (encI (distV g sh goal))) := by
  have hlen := hg.1
  refine ACalls_X Try.func92 rfl enters92 (by simp [Try.f92]) ?_
  simp only [go_sem, encG_len]
  refine ⟨by omega, ?_⟩
  refine X_loop_inv (fun q : Nat × List Int => ⟨[(0, .p (.sl (encG g))), (1, .p (.sl (encT sh))), (2, .p (.int .i64 (goal : Nat))), (7, .ref 14 0 g.length g.length), (8, .p (.int .i64 (q.1 : Nat)))], [(14, .arr 3 1 (encI q.2))], 82⟩)
    (fun q => q.1 ≤ g.length ∧ q.2.length = g.length ∧ ∀ j, j < q.1 → q.2.getD j 0 = -1) (fun q => g.length - q.1) (0, List.replicate g.length 0) ⟨Nat.zero_le _, by simp, fun j hj => absurd hj (Nat.not_lt_zero _)⟩ (Wk.forget (by simp [Le, LeE, LeH, get, envIds, hpIds, KeepH, D.ids, idsL, AO.ids, setL, base, encI])) ?_
  rintro ⟨i, o⟩ m ⟨hi, ho, hm⟩ ih
  simp only at hi ho hm
  simp only [go_sem, encG_len]
  refine Cn_split (fun h2 => ?_) (fun h2 => ?_)
  · have hlt : i < g.length := by simp at h2; omega
    have hw := wrap_succ i (by omega)
    have hi0 : (0 : Int) ≤ (i : Int) ∧ (i : Int) < (g.length : Int) := by omega
    simp only [go_sem, encI_len, ho, Int.toNat_natCast, hi0, hw]
    refine ih (i + 1, o.set i (-1)) _ ⟨hlt, by simpa using ho, fun j hj => ?_⟩ (by simp only; omega) ?_
    · rw [getD_set]
      by_cases e : i = j
      · rw [if_pos ⟨e, by omega⟩]
      · rw [if_neg (fun h => e h.1)]; exact hm j (by omega)
    · (refine Wk.forget ?_; simp [Le, LeE, LeH, get, envIds, hpIds, KeepH, D.ids, idsL, AO.ids, setL, base, encI_set, encI_tail]; done)
  have hie : i = g.length := by simp at h2; omega
  subst hie
  have hoe : o = List.replicate g.length (-1) := by
    refine List.ext_getElem (by simp [ho]) fun j h3 h4 => ?_
    have := hm j (by omega)
    rw [getD_eq h3] at this
    simpa using this
  subst hoe
  clear ih hm
  have hgsh := encT_get sh goal (by omega)
  have hg0 : (0 : Int) ≤ (goal : Int) ∧ (goal : Int) < (g.length : Int) := by omega
  simp only [go_sem, encT_len, hsh, Int.toNat_natCast, hgsh, hg0]
  cases hs : sh.getD goal false
  rotate_left
  · simp only [go_sem, hs]
    refine end_pure ?_
    simp only [go_sem]
    unfold distV
    rw [if_pos hs]
    simp [encI]
  simp only [go_sem, hs, encI_len, List.length_replicate, Int.toNat_natCast, hg0]
  have hdv : distV g sh goal = dLoop g sh (g.length - 1) 1 ((List.replicate g.length (-1)).set goal 0) := by unfold distV; rw [if_neg (by rw [hs]; simp)]
  refine X_loop_inv (fun q : Nat × List Int => ⟨[(0, .p (.sl (encG g))), (1, .p (.sl (encT sh))), (7, .ref 14 0 g.length g.length), (9, .p (.int .i64 (q.1 : Nat)))], [(14, .arr 3 1 (encI q.2))], 82⟩)
    (fun q => 1 ≤ q.1 ∧ q.1 ≤ 24 ∧ q.2.length = g.length ∧ dLoop g sh (g.length - q.1) q.1 q.2 = distV g sh goal) (fun q => g.length - q.1) (1, (List.replicate g.length (-1)).set goal 0) ⟨Nat.le_refl _, by omega, by simp, hdv.symm⟩ (Wk.forget (by simp [Le, LeE, LeH, get, envIds, hpIds, KeepH, D.ids, idsL, AO.ids, setL, base, encI_set, encI_tail])) ?_
  rintro ⟨d, o⟩ m2 ⟨hd1, hd24, ho, he⟩ ih
  simp only at hd1 hd24 ho he
  simp only [go_sem, encG_len]
  refine Cn_split (fun h3 => ?_) (fun h3 => ?_)
  rotate_left
  · simp only [go_sem]
    refine end_pure ?_
    simp only [go_sem]
    have : g.length - d = 0 := by simp at h3; omega
    rw [this] at he
    simp only [dLoop] at he
    rw [← he, List.take_of_length_le (by rw [encI_len]; omega)]
    try simp [encI_len, ho]
  have hdt : d < g.length := by simp at h3; omega
  have hwd := wrap_succ d (by omega)
  have hwp : IntKind.i64.wrap ((d : Int) - 1) = (d : Int) - 1 := by rw [wrap_i64_id] <;> omega
  rw [show g.length - d = (g.length - (d + 1)) + 1 by omega] at he
  simp only [dLoop] at he
  generalize hT : vLoop g sh d g.length 0 o = T at he
  simp only [go_sem]
  refine X_loop_inv (fun q : Nat × List Int => ⟨[(0, .p (.sl (encG g))), (1, .p (.sl (encT sh))), (7, .ref 14 0 g.length g.length), (9, .p (.int .i64 (d : Nat))), (10, .p (.int .i64 (q.1 : Nat)))], [(14, .arr 3 1 (encI q.2))], 82⟩)
    (fun q => q.1 ≤ g.length ∧ q.2.length = g.length ∧ vLoop g sh d (g.length - q.1) q.1 q.2 = T) (fun q => g.length - q.1) (0, o) ⟨Nat.zero_le _, ho, hT⟩ (Wk.forget (by simp [Le, LeE, LeH, get, envIds, hpIds, KeepH, D.ids, idsL, AO.ids, setL, base])) ?_
  rintro ⟨v, o1⟩ m3 ⟨hv, ho1, he1⟩ ih1
  simp only at hv ho1 he1
  simp only [go_sem, encG_len]
  refine Cn_split (fun h4 => ?_) (fun h4 => ?_)
  rotate_left
  · have : g.length - v = 0 := by simp at h4; omega
    rw [this] at he1
    simp only [vLoop] at he1
    simp only [go_sem, hwd]
    refine ih (d + 1, o1) _ ⟨by omega, by omega, ho1, by rw [he1]; exact he⟩ (by simp only; omega) ?_
    (refine Wk.forget ?_; simp [Le, LeE, LeH, get, envIds, hpIds, KeepH, D.ids, idsL, AO.ids, setL, base]; done)
  have hvt : v < g.length := by simp at h4; omega
  have hwv := wrap_succ v (by omega)
  rw [show g.length - v = (g.length - (v + 1)) + 1 by omega] at he1
  simp only [vLoop] at he1
  have hgs := encT_get sh v (by omega)
  have hgo := encI_get o1 v (by omega)
  have hv0 : (0 : Int) ≤ (v : Int) ∧ (v : Int) < (g.length : Int) := by omega
  cases c1 : sh.getD v false
  rotate_left
  · simp only [go_sem, encT_len, encI_len, hsh, ho1, Int.toNat_natCast, hgs, hgo, hv0, c1, hwv]
    refine ih1 (v + 1, o1) _ ⟨hvt, ho1, ?_⟩ (by simp only; omega) ?_
    · rw [← he1]; unfold vStep; rw [if_pos (.inl c1)]
    · (refine Wk.forget ?_; simp [Le, LeE, LeH, get, envIds, hpIds, KeepH, D.ids, idsL, AO.ids, setL, base]; done)
  cases c2 : decide (0 ≤ o1.getD v 0)
  rotate_left
  · simp only [go_sem, encT_len, encI_len, hsh, ho1, Int.toNat_natCast, hgs, hgo, hv0, c1, c2, hwv]
    refine ih1 (v + 1, o1) _ ⟨hvt, ho1, ?_⟩ (by simp only; omega) ?_
    · rw [← he1]; unfold vStep; rw [if_pos (.inr (of_decide_eq_true c2))]
    · (refine Wk.forget ?_; simp [Le, LeE, LeH, get, envIds, hpIds, KeepH, D.ids, idsL, AO.ids, setL, base]; done)
  simp only [go_sem, encT_len, encI_len, hsh, ho1, Int.toNat_natCast, hgs, hgo, hv0, c1, c2]
  have hst : vStep g sh d v o1 = if (g.getD v []).any (fun w => decide (o1.getD w.toNat 0 = (d : Int) - 1)) = true then o1.set v d else o1 := by
    unfold vStep
    rw [if_neg (by
      rintro (h | h)
      · rw [c1] at h; cases h
      · exact of_decide_eq_false c2 h)]
  rw [hst] at he1
  have hrow : ∀ k, k < (g.getD v []).length → ∃ w : Nat, (g.getD v []).getD k 0 = (w : Int) ∧ w < g.length ∧ w ≠ v := fun k hk => row_in hg hvt hk
  have hrl : (g.getD v []).length ≤ 24 := by
    have hP := hg.2 v hvt
    have key : ∀ k, k ≤ (g.getD v []).length → ∀ j, j < k → (j : Int) ≤ (g.getD v []).getD j 0 := by
      intro k
      induction k with
      | zero => intro _ j hj; omega
      | succ k ihk =>
        intro hk j hj
        rcases Nat.lt_succ_iff_lt_or_eq.1 hj with h5 | rfl
        · exact ihk (by omega) j h5
        · have h6 := hP j (by omega)
          unfold okAt at h6
          rcases j with _ | j
          · exact h6.1
          · have h7 := ihk (by omega) j (by omega)
            have h8 := h6.2.2.2 (by omega)
            rw [show j + 1 - 1 = j from rfl] at h8
            omega
    rcases Nat.eq_zero_or_pos (g.getD v []).length with h5 | h5
    · omega
    · have h6 := key _ (Nat.le_refl _) ((g.getD v []).length - 1) (by omega)
      obtain ⟨w, h7, h8, _⟩ := hrow ((g.getD v []).length - 1) (by omega)
      omega
  have hgv := encG_get g v hvt
  generalize g.getD v [] = row at *
  clear hst c1 c2 hgs hgo
  refine X_loop_inv (fun k : Nat => ⟨[(0, .p (.sl (encG g))), (1, .p (.sl (encT sh))), (7, .ref 14 0 g.length g.length), (9, .p (.int .i64 (d : Nat))), (10, .p (.int .i64 (v : Nat))), (11, .p (.int .i64 (k : Nat)))],
      [(14, .arr 3 1 (encI (if (row.take k).any (fun w => decide (o1.getD w.toNat 0 = (d : Int) - 1)) = true then o1.set v d else o1)))], 82⟩)
    (fun k => k ≤ row.length) (fun k => row.length - k) 0 (Nat.zero_le _) (Wk.forget (by simp [Le, LeE, LeH, get, envIds, hpIds, KeepH, D.ids, idsL, AO.ids, setL, base])) ?_
  rintro k m4 hk ih2
  simp only [go_sem, encG_len, encI_len, Int.toNat_natCast, hgv, hv0]
  refine Cn_split (fun h5 => ?_) (fun h5 => ?_)
  rotate_left
  · have : k = row.length := by simp at h5; omega
    subst this
    rw [List.take_length]
    clear ih2
    generalize row.any (fun w => decide (o1.getD w.toNat 0 = (d : Int) - 1)) = an at *
    simp only [go_sem, hwv]
    refine ih1 (v + 1, if an = true then o1.set v d else o1) _ ⟨hvt, ?_, he1⟩ (by simp only; omega) ?_
    · simp only; split <;> simp [ho1]
    · (refine Wk.forget ?_; simp [Le, LeE, LeH, get, envIds, hpIds, KeepH, D.ids, idsL, AO.ids, setL, base]; done)
  have hkt : k < row.length := by simp at h5; omega
  have hwk := wrap_succ k (by omega)
  obtain ⟨w, hw, hwl, hwv2⟩ := hrow k hkt
  have hgk := encI_get row k hkt
  rw [hw] at hgk
  have hk0 : (0 : Int) ≤ (k : Int) ∧ (k : Int) < (row.length : Int) := by omega
  have hw0 : (0 : Int) ≤ (w : Int) ∧ (w : Int) < (g.length : Int) := by omega
  have hts := any_take_succ (fun w => decide (o1.getD w.toNat 0 = (d : Int) - 1)) row k 0 hkt
  rw [hw] at hts
  simp only [Int.toNat_natCast] at hts
  generalize (row.take k).any (fun w => decide (o1.getD w.toNat 0 = (d : Int) - 1)) = an at *
  have hol : (if an = true then o1.set v d else o1).length = g.length := by split <;> simp [ho1]
  have hgw := encI_get (if an = true then o1.set v d else o1) w (by omega)
  have hgw2 : (if an = true then o1.set v d else o1).getD w 0 = o1.getD w 0 := by
    split
    · rw [getD_set, if_neg (fun h => hwv2 h.1.symm)]
    · rfl
  rw [hgw2] at hgw
  have hset : (if an = true then o1.set v d else o1).set v d = o1.set v d := by split <;> simp
  generalize hq : (if an = true then o1.set v d else o1) = q at *
  simp only [go_sem, encG_len, encI_len, Int.toNat_natCast, hgv, hv0, hgk, hk0, hol, hgw, hw0, hwp]
  cases c3 : decide (o1.getD w 0 = (d : Int) - 1)
  · simp only [go_sem, c3, hwk]
    refine ih2 (k + 1) _ hkt (by omega) ?_
    rw [hts, c3, Bool.or_false, hq]
    (refine Wk.forget ?_; simp [Le, LeE, LeH, get, envIds, hpIds, KeepH, D.ids, idsL, AO.ids, setL, base]; done)
  · simp only [go_sem, c3, hwk, encI_len, hol, Int.toNat_natCast, hv0]
    refine ih2 (k + 1) _ hkt (by omega) ?_
    rw [hts, c3, Bool.or_true, if_pos rfl, ← hset, encI_set]
    (refine Wk.forget ?_; simp [Le, LeE, LeH, get, envIds, hpIds, KeepH, D.ids, idsL, AO.ids, setL, base, encI_tail]; done)
end Go.Am
end
section
namespace Go.Am
open Go Go.Proofs
set_option maxRecDepth 100000
set_option linter.unusedVariables false
set_option linter.unusedSimpArgs false
theorem check4_ok (g : List (List Int)) (sh : List Bool) (hg : smallG g) : ACalls Try.prog 78 [.p (.sl (encG g)), .p (.sl (encT sh))] [] fun h r => h = [] ∧ r = .p (.int .i64 (if gphP g then (if sh.length = g.length then 0 else 19) else 20)) := by
  refine ACalls_X Try.func78 rfl enters78 (by simp [Try.f78]) ?_
  simp only [go_sem]
  refine Cc_of ((valid4_ok g hg)) ?_
  rintro h' r ⟨rfl, rfl⟩
  cases c1 : decide (gphP g)
  · simp only [go_sem, c1]
    rw [if_neg (of_decide_eq_false c1)]
  simp only [go_sem, c1, encT_len, encG_len]
  rw [if_pos (of_decide_eq_true c1)]
  cases c2 : decide ((sh.length : Int) = (g.length : Int))
  · simp only [go_sem, c2]
    rw [if_neg (fun h => of_decide_eq_false c2 (by omega))]
  · simp only [go_sem, c2]
    rw [if_pos (by have := of_decide_eq_true c2; omega)]
def hopV (g : List (List Int)) (D : List Int) (v : Nat) : Int := if 0 < D.getD v 0 then ((g.getD v []).find? (fun w => decide (D.getD w.toNat 0 = D.getD v 0 - 1))).getD (-1) else -1
theorem distV_rng {g : List (List Int)} (hg : gphP g) (sh : List Bool) {goal : Nat} (hgoal : goal < g.length) {v : Nat} (hv : v < g.length) : -1 ≤ (distV g sh goal).getD v 0 ∧ (distV g sh goal).getD v 0 ≤ 24 := by
  rcases (distV_DP hg sh goal hgoal).2 v hv with h | h | h <;> omega
theorem row_len {g : List (List Int)} (hg : gphP g) {u : Nat} (hu : u < g.length) : (g.getD u []).length ≤ 24 := by
  have hP := hg.2 u hu
  have key : ∀ k, k ≤ (g.getD u []).length → ∀ j, j < k → (j : Int) ≤ (g.getD u []).getD j 0 := by
    intro k
    induction k with
    | zero => intro _ j hj; omega
    | succ k ihk =>
      intro hk j hj
      rcases Nat.lt_succ_iff_lt_or_eq.1 hj with h5 | rfl
      · exact ihk (by omega) j h5
      · have h6 := hP j (by omega)
        unfold okAt at h6
        rcases j with _ | j
        · exact h6.1
        · have h7 := ihk (by omega) j (by omega)
          have h8 := h6.2.2.2 (by omega)
          rw [show j + 1 - 1 = j from rfl] at h8
          omega
  have hl := hg.1
  rcases Nat.eq_zero_or_pos (g.getD u []).length with h5 | h5
  · omega
  · have h6 := key _ (Nat.le_refl _) ((g.getD u []).length - 1) (by omega)
    obtain ⟨w, h7, h8, _⟩ := row_in hg hu (k := (g.getD u []).length - 1) (by omega)
    omega
def jm1 (j : Nat) : Int := (j : Int) - 1
set_option maxHeartbeats 800000 in
theorem hops_ok (g : List (List Int)) (sh : List Bool) (goal : Nat) (hg : gphP g) (hsh : sh.length = g.length) (hgoal : goal < g.length) :
    ACalls Try.prog 95 [.p (.sl (encG g)), .p (.sl (encT sh)), .p (.int .i64 (goal : Nat))] [] fun h r => h = [] ∧ ∃ o : List Int, r = .p (.sl (encI o)) ∧ o.length = g.length ∧ ∀ v, v < g.length → o.getD v 0 = hopV g (distV g sh goal) v := by
  have hlen := hg.1
  have hDl := distV_len g sh goal
  have hDr : ∀ v, v < g.length → -1 ≤ (distV g sh goal).getD v 0 ∧ (distV g sh goal).getD v 0 ≤ 24 := fun v hv => distV_rng hg sh hgoal hv
  have hd := dist_ok g sh goal hg hsh hgoal
  refine ACalls_X Try.func95 rfl enters95 (by simp [Try.f95]) ?_
  simp only [go_sem]
  refine Cc_of ((hd)) ?_
  rintro h' r ⟨rfl, rfl⟩
  generalize distV g sh goal = ds at *
  clear hd
  simp only [go_sem, encG_len]
  refine ⟨by omega, ?_⟩
  refine X_loop_inv (fun q : Nat × List Int => ⟨[(0, .p (.sl (encG g))), (7, .p (.sl (encI ds))), (8, .ref 18 0 g.length g.length), (9, .p (.int .i64 (q.1 : Nat)))], [(18, .arr 3 1 (encI q.2))], 67⟩)
    (fun q => q.1 ≤ g.length ∧ q.2.length = g.length ∧ ∀ v, v < q.1 → q.2.getD v 0 = hopV g ds v) (fun q => g.length - q.1) (0, List.replicate g.length 0) ⟨Nat.zero_le _, by simp, fun j hj => absurd hj (Nat.not_lt_zero _)⟩ (Wk.forget (by simp [Le, LeE, LeH, get, envIds, hpIds, KeepH, D.ids, idsL, AO.ids, setL, base, encI])) ?_
  rintro ⟨v, o⟩ m ⟨hv, ho, hall⟩ ih
  simp only at hv ho hall
  simp only [go_sem, encG_len]
  refine Cn_split (fun h2 => ?_) (fun h2 => ?_)
  rotate_left
  · simp only [go_sem]
    refine end_pure ?_
    simp only [go_sem]
    have : v = g.length := by simp at h2; omega
    subst this
    refine ⟨by rw [encI_len]; omega, o, ?_, ho, hall⟩
    rw [List.take_of_length_le (by rw [encI_len]; omega)]
  have hvt : v < g.length := by simp at h2; omega
  have hwv := wrap_succ v (by omega)
  have hv0 : (0 : Int) ≤ (v : Int) ∧ (v : Int) < (g.length : Int) := by omega
  have hgv := encG_get g v hvt
  have hrow : ∀ k, k < (g.getD v []).length → ∃ w : Nat, (g.getD v []).getD k 0 = (w : Int) ∧ w < g.length ∧ w ≠ v := fun k hk => row_in hg hvt hk
  have hrl := row_len hg hvt
  have hDv := encI_get ds v (by omega)
  have hDvr := hDr v hvt
  have hhv : hopV g ds v = if 0 < ds.getD v 0 then ((g.getD v []).find? (fun w => decide (ds.getD w.toNat 0 = ds.getD v 0 - 1))).getD (-1) else -1 := rfl
  generalize g.getD v [] = row at *
  generalize hdv : ds.getD v 0 = dv at *
  have hwl : IntKind.i64.wrap ((row.length : Int) - 1) = jm1 row.length := by unfold jm1; rw [wrap_i64_id] <;> omega
  simp only [go_sem, encG_len, encI_len, ho, Int.toNat_natCast, hv0, hgv, hwl]
  refine X_loop_inv (fun j : Nat => ⟨[(0, .p (.sl (encG g))), (7, .p (.sl (encI ds))), (8, .ref 18 0 g.length g.length), (9, .p (.int .i64 (v : Nat))), (10, .p (.int .i64 (jm1 j)))],
      [(18, .arr 3 1 (encI (o.set v (((row.drop j).find? (fun w => decide (ds.getD w.toNat 0 = dv - 1))).getD (-1)))))], 67⟩)
    (fun j => j ≤ row.length ∧ (j = row.length ∨ 0 < dv)) (fun j => j) row.length ⟨Nat.le_refl _, .inl rfl⟩ (Wk.forget (by simp [Le, LeE, LeH, get, envIds, hpIds, KeepH, D.ids, idsL, AO.ids, setL, base, encI_set, encI_tail, List.drop_length])) ?_
  rintro j m2 ⟨hj, hjd⟩ ih2
  have hset : ∀ x, ∀ u, u < v + 1 → x = hopV g ds v → (o.set v x).getD u 0 = hopV g ds u := fun x u hu hx => by
    rw [getD_set]
    by_cases e : v = u
    · subst e; rw [if_pos ⟨rfl, by omega⟩]; exact hx
    · rw [if_neg (fun h => e h.1)]; exact hall u (by omega)
  rcases j with _ | j
  · have hz : ¬ (0 : Int) ≤ jm1 0 := by unfold jm1; omega
    simp only [go_sem, hz, hwv]
    refine ih (v + 1, o.set v ((row.find? (fun w => decide (ds.getD w.toNat 0 = dv - 1))).getD (-1))) _ ⟨hvt, by simp [ho], fun u hu => hset _ u hu ?_⟩ (by simp only; omega) ?_
    · rw [hhv]
      rcases hjd with h3 | h3
      · have : row = [] := List.length_eq_zero_iff.1 h3.symm
        subst this
        simp
      · rw [if_pos h3]
    · (refine Wk.forget ?_; simp [Le, LeE, LeH, get, envIds, hpIds, KeepH, D.ids, idsL, AO.ids, setL, base]; done)
  · have hj1 : jm1 (j + 1) = (j : Int) := by unfold jm1; omega
    have hjn : (0 : Int) ≤ (j : Int) := by omega
    have hwj : IntKind.i64.wrap ((j : Int) - 1) = jm1 j := by unfold jm1; rw [wrap_i64_id] <;> omega
    cases c1 : decide (0 < dv)
    · have hjl : j + 1 = row.length := by
        rcases hjd with h3 | h3
        · exact h3
        · exact absurd h3 (of_decide_eq_false c1)
      have hdrop : row.drop (j + 1) = [] := by rw [hjl]; simp
      rw [hdrop]
      simp only [go_sem, hj1, hjn, encI_len, hDl, Int.toNat_natCast, hv0, hDv, c1, hwv]
      refine ih (v + 1, o.set v (-1)) _ ⟨hvt, by simp [ho], fun u hu => hset _ u hu ?_⟩ (by simp only; omega) ?_
      · rw [hhv, if_neg (of_decide_eq_false c1)]
      · (refine Wk.forget ?_; simp [Le, LeE, LeH, get, envIds, hpIds, KeepH, D.ids, idsL, AO.ids, setL, base]; done)
    have hjt : j < row.length := by omega
    obtain ⟨w, hw, hwl2, hwne⟩ := hrow j hjt
    have hgj := encI_get row j hjt
    rw [hw] at hgj
    have hj0 : (0 : Int) ≤ (j : Int) ∧ (j : Int) < (row.length : Int) := by omega
    have hw0 : (0 : Int) ≤ (w : Int) ∧ (w : Int) < (g.length : Int) := by omega
    have hDw := encI_get ds w (by omega)
    have hwd : IntKind.i64.wrap (dv - 1) = dv - 1 := by rw [wrap_i64_id] <;> omega
    have hdr : row.drop j = (w : Int) :: row.drop (j + 1) := by rw [drop_getD row j 0 hjt, hw]
    simp only [go_sem, hj1, hjn, encI_len, encG_len, hDl, Int.toNat_natCast, hv0, hDv, c1, hgv, hgj, hj0]
    refine X_any0 mixed (p := [(0, 0), (1, 0), (2, 0), (3, 0), (4, 0), (5, 0), (6, 0), (7, 0), (8, 0), (9, 0)]) (by kernel_rfl) (by simp [LeH, get]) ?_
    simp only [go_sem, encI_len, hDl, Int.toNat_natCast, hv0, hDv, hDw, hw0, hwd]
    cases c2 : decide (ds.getD w 0 = dv - 1)
    · simp only [go_sem, c2, hwj]
      refine ih2 j _ ⟨by omega, .inr (of_decide_eq_true c1)⟩ (by omega) ?_
      rw [hdr, List.find?_cons_of_neg (by simp only [Int.toNat_natCast]; simpa using of_decide_eq_false c2)]
      (refine Wk.forget ?_; simp [Le, LeE, LeH, get, envIds, hpIds, KeepH, D.ids, idsL, AO.ids, setL, base]; done)
    · simp only [go_sem, c2, hwj, encI_len, List.length_set, ho, Int.toNat_natCast, hv0]
      refine ih2 j _ ⟨by omega, .inr (of_decide_eq_true c1)⟩ (by omega) ?_
      rw [hdr, List.find?_cons_of_pos (by simp only [Int.toNat_natCast]; exact c2)]
      generalize ((row.drop (j + 1)).find? (fun w => decide (ds.getD w.toNat 0 = dv - 1))).getD (-1) = y0
      rw [show o.set v ((some (w : Int)).getD (-1)) = (o.set v y0).set v (w : Int) by simp, encI_set (o.set v y0)]
      (refine Wk.forget ?_; simp [Le, LeE, LeH, get, envIds, hpIds, KeepH, D.ids, idsL, AO.ids, setL, base, encI_tail]; done)
end Go.Am
end
section
namespace Go.Am
open Go Go.Proofs
set_option maxRecDepth 100000
set_option linter.unusedVariables false
set_option linter.unusedSimpArgs false
theorem wid_encI (l : List Int) : Wid 1 (encI l) := by
  intro e he
  unfold encI at he
  obtain ⟨x, _, rfl⟩ := List.mem_map.1 he
  rfl
theorem hop_next {g : List (List Int)} (hg : gphP g) (sh : List Bool) {goal cur : Nat} (hgoal : goal < g.length) (hc : cur < g.length) (hne : cur ≠ goal) (h0 : 0 ≤ (distV g sh goal).getD cur 0) :
    ∃ w : Nat, hopV g (distV g sh goal) cur = (w : Int) ∧ w < g.length ∧ (distV g sh goal).getD w 0 = (distV g sh goal).getD cur 0 - 1 ∧ 1 ≤ (distV g sh goal).getD cur 0 := by
  have hdp := (distV_DP hg sh goal hgoal).2 cur hc
  generalize distV g sh goal = ds at *
  rcases hdp with h | h | ⟨h1, h2, w, h3, h4⟩
  · omega
  · exact absurd h.2 hne
  · unfold hopV
    rw [if_pos (by omega)]
    have hs : ((g.getD cur []).find? (fun w => decide (ds.getD w.toNat 0 = ds.getD cur 0 - 1))).isSome := by
      rw [List.find?_isSome]
      exact ⟨w, h3, decide_eq_true h4⟩
    obtain ⟨u, hu⟩ := Option.isSome_iff_exists.1 hs
    have hm := List.mem_of_find?_eq_some hu
    have hp : ds.getD u.toNat 0 = ds.getD cur 0 - 1 := by have := List.find?_some hu; simpa using this
    obtain ⟨k, hk, hku⟩ := List.mem_iff_getElem.1 hm
    obtain ⟨x, hx1, hx2, _⟩ := row_in hg hc hk
    rw [getD_eq hk, hku] at hx1
    rw [hu]
    subst hx1
    exact ⟨x, rfl, hx2, by simpa using hp, h1⟩
theorem first_ok (g : List (List Int)) (sh : List Bool) (src goal : Nat) (hg : gphP g) (hsh : sh.length = g.length) (hgoal : goal < g.length) (hsrc : src < g.length) (h0 : 0 ≤ (distV g sh goal).getD src 0) :
    ACalls Try.prog 93 [.p (.sl (encG g)), .p (.sl (encT sh)), .p (.int .i64 (src : Nat)), .p (.int .i64 (goal : Nat))] [] fun h r => h = [] ∧ ∃ o : List Int, r = .p (.sl (encI o)) ∧ 1 ≤ o.length ∧ o.length ≤ 26 := by
  have hDl := distV_len g sh goal
  have hnext : ∀ cur, cur < g.length → cur ≠ goal → 0 ≤ (distV g sh goal).getD cur 0 → _ := fun cur hc hne h => hop_next hg sh hgoal hc hne h
  have hrng := (distV_rng hg sh hgoal hsrc).2
  have hd := dist_ok g sh goal hg hsh hgoal
  have hh := hops_ok g sh goal hg hsh hgoal
  refine ACalls_X Try.func93 rfl enters93 (by simp [Try.f93]) ?_
  simp only [go_sem]
  refine Cc_of ((hd)) ?_
  rintro h' r ⟨rfl, rfl⟩
  generalize distV g sh goal = ds at *
  clear hd
  have hDv := encI_get ds src (by omega)
  have hs0 : (0 : Int) ≤ (src : Int) ∧ (src : Int) < (g.length : Int) := by omega
  have hneg : ¬ ds.getD src 0 < 0 := by omega
  simp only [go_sem, encI_len, hDl, Int.toNat_natCast, hDv, hs0, hneg]
  refine Cc_of hh ?_
  rintro h' r ⟨rfl, hp, rfl, hpl, hpv⟩
  simp only [go_sem]
  refine X_loop_inv (fun q : Nat × List Int => ⟨[(2, .p (.int .i64 (q.1 : Nat))), (3, .p (.int .i64 (goal : Nat))), (9, .p (.sl (encI hp))), (10, .ref 24 0 q.2.length q.2.length)], [(24, .arr 3 1 (encI q.2))], 37⟩)
    (fun q => q.1 < g.length ∧ 0 ≤ ds.getD q.1 0 ∧ 1 ≤ q.2.length ∧ (q.2.length : Int) + ds.getD q.1 0 ≤ 25) (fun q => (ds.getD q.1 0).toNat) (src, [(src : Int)]) ⟨hsrc, h0, Nat.le_refl _, by show ((1 : Nat) : Int) + ds.getD src 0 ≤ 25; omega⟩ (Wk.forget (by simp [Le, LeE, LeH, get, envIds, hpIds, KeepH, D.ids, idsL, AO.ids, setL, base, encI])) ?_
  rintro ⟨cur, o⟩ m ⟨hc, hc0, ho1, ho2⟩ ih
  simp only at hc hc0 ho1 ho2
  simp only [go_sem]
  cases c1 : decide ((cur : Int) = (goal : Int))
  · have hne : cur ≠ goal := fun e => of_decide_eq_false c1 (by rw [e])
    obtain ⟨w, hw1, hw2, hw3, hw4⟩ := hnext cur hc hne hc0
    have hgc := encI_get hp cur (by omega)
    rw [hpv cur hc, hw1] at hgc
    have hc2 : (0 : Int) ≤ (cur : Int) ∧ (cur : Int) < (g.length : Int) := by omega
    simp only [go_sem, c1, encI_len, hpl, Int.toNat_natCast, hgc, hc2]
    refine ⟨⟨wid1 _ _ rfl, by omega⟩, ?_⟩
    refine ih (w, o ++ [(w : Int)]) _ ⟨hw2, by simp only; omega, by simp, by show (((o ++ [(w : Int)]).length : Nat) : Int) + ds.getD w 0 ≤ 25; rw [List.length_append, List.length_singleton]; omega⟩ (by simp only; omega) ?_
    (refine Wk.forget ?_; simp [Le, LeE, LeH, get, envIds, hpIds, KeepH, D.ids, idsL, AO.ids, setL, base, encI_snoc, encI_len]; done)
  · simp only [go_sem, c1]
    refine end_pure ?_
    simp only [go_sem]
    refine ⟨by rw [encI_len], o, ?_, ho1, by omega⟩
    rw [encI_take _ _ (Nat.le_refl _)]
set_option maxHeartbeats 800000 in
theorem through_ok (g : List (List Int)) (sh : List Bool) (v : Nat) (hg : gphP g) (hsh : sh.length = g.length) (hv : v < g.length) :
    ACalls Try.prog 79 [.p (.sl (encG g)), .p (.sl (encT sh)), .p (.int .i64 (v : Nat))] [] fun h r => h = [] ∧ ∃ o : List Int, r = .p (.sl (encI o)) ∧ o.length ≤ 30 := by
  have hDl := distV_len g sh v
  have hd := dist_ok g sh v hg hsh hv
  have hf := fun src hs h0 => first_ok g sh src v hg hsh hv hs h0
  have hgs := encT_get sh v (by omega)
  have hv0 : (0 : Int) ≤ (v : Int) ∧ (v : Int) < (g.length : Int) := by omega
  refine ACalls_X Try.func79 rfl enters79 (by simp [Try.f79]) ?_
  simp only [go_sem, encT_len, hsh, Int.toNat_natCast, hgs, hv0]
  cases hs : sh.getD v false
  rotate_left
  · simp only [go_sem, hs]
    refine end_pure ?_
    simp only [go_sem]
    exact ⟨[], rfl, by simp⟩
  simp only [go_sem, hs]
  refine Cc_of ((hd)) ?_
  rintro h' r ⟨rfl, rfl⟩
  generalize distV g sh v = ds at *
  clear hd hs hgs
  have hrow : ∀ k, k < (g.getD v []).length → ∃ w : Nat, (g.getD v []).getD k 0 = (w : Int) ∧ w < g.length ∧ w ≠ v := fun k hk => row_in hg hv hk
  have hrl := row_len hg hv
  have hgv := encG_get g v hv
  generalize g.getD v [] = row at *
  simp only [go_sem]
  refine X_loop_inv (fun q : Nat × Int => ⟨[(0, .p (.sl (encG g))), (1, .p (.sl (encT sh))), (2, .p (.int .i64 (v : Nat))), (7, .p (.sl (encI ds))), (8, .p (.int .i64 q.2)), (9, .p (.int .i64 (q.1 : Nat)))], [], 72⟩)
    (fun q => q.1 ≤ row.length ∧ (q.2 = -1 ∨ ∃ b : Nat, q.2 = (b : Int) ∧ b < g.length ∧ 0 ≤ ds.getD b 0)) (fun q => row.length - q.1) (0, -1) ⟨Nat.zero_le _, .inl rfl⟩ (Wk.forget (by simp [Le, LeE, LeH, get, envIds, hpIds, KeepH, D.ids, idsL, AO.ids, setL, base])) ?_
  rintro ⟨k, bst⟩ m ⟨hk, hb⟩ ih
  simp only at hk hb
  simp only [go_sem, encG_len, encI_len, Int.toNat_natCast, hgv, hv0]
  refine Cn_split (fun h3 => ?_) (fun h3 => ?_)
  · have hkt : k < row.length := by simp at h3; omega
    have hwk := wrap_succ k (by omega)
    obtain ⟨w, hw, hwl, _⟩ := hrow k hkt
    have hgk := encI_get row k hkt
    rw [hw] at hgk
    have hk0 : (0 : Int) ≤ (k : Int) ∧ (k : Int) < (row.length : Int) := by omega
    have hw0 : (0 : Int) ≤ (w : Int) ∧ (w : Int) < (g.length : Int) := by omega
    have hDw := encI_get ds w (by omega)
    simp only [go_sem, encG_len, encI_len, Int.toNat_natCast, hgv, hv0, hgk, hk0]
    refine X_any0 mixed (p := [(0, 0), (1, 0), (2, 0), (3, 0), (4, 0), (5, 0), (6, 0), (7, 0), (8, 0), (9, 0), (10, 0), (11, 0), (12, 0), (13, 0), (14, 0), (15, 0), (16, 0), (17, 0), (18, 0), (19, 0)]) (by kernel_rfl) (by simp [LeH, get]) ?_
    cases c1 : decide (0 ≤ ds.getD w 0)
    · simp only [go_sem, encI_len, hDl, Int.toNat_natCast, hDw, hw0, c1, hwk]
      refine ih (k + 1, bst) _ ⟨hkt, hb⟩ (by simp only; omega) ?_
      (refine Wk.forget ?_; simp [Le, LeE, LeH, get, envIds, hpIds, KeepH, D.ids, idsL, AO.ids, setL, base]; done)
    have hnw : ∃ b : Nat, (w : Int) = (b : Int) ∧ b < g.length ∧ 0 ≤ ds.getD b 0 := ⟨w, rfl, hwl, of_decide_eq_true c1⟩
    rcases hb with rfl | ⟨b, rfl, hbl, hb0⟩
    · simp only [go_sem, encI_len, hDl, Int.toNat_natCast, hDw, hw0, c1, hwk]
      refine ih (k + 1, (w : Int)) _ ⟨hkt, .inr hnw⟩ (by simp only; omega) ?_
      (refine Wk.forget ?_; simp [Le, LeE, LeH, get, envIds, hpIds, KeepH, D.ids, idsL, AO.ids, setL, base]; done)
    · have hDb := encI_get ds b (by omega)
      have hbi : (0 : Int) ≤ (b : Int) ∧ (b : Int) < (g.length : Int) := by omega
      have hbn : ¬ (b : Int) < 0 := by omega
      cases c2 : decide (ds.getD w 0 < ds.getD b 0)
      · simp only [go_sem, encI_len, hDl, Int.toNat_natCast, hDw, hw0, c1, hbn, hDb, hbi, c2, hwk]
        refine ih (k + 1, (b : Int)) _ ⟨hkt, .inr ⟨b, rfl, hbl, hb0⟩⟩ (by simp only; omega) ?_
        (refine Wk.forget ?_; simp [Le, LeE, LeH, get, envIds, hpIds, KeepH, D.ids, idsL, AO.ids, setL, base]; done)
      · simp only [go_sem, encI_len, hDl, Int.toNat_natCast, hDw, hw0, c1, hbn, hDb, hbi, c2, hwk]
        refine ih (k + 1, (w : Int)) _ ⟨hkt, .inr hnw⟩ (by simp only; omega) ?_
        (refine Wk.forget ?_; simp [Le, LeE, LeH, get, envIds, hpIds, KeepH, D.ids, idsL, AO.ids, setL, base]; done)
  · rcases hb with rfl | ⟨b, rfl, hbl, hb0⟩
    · simp only [go_sem]
      refine end_pure ?_
      simp only [go_sem]
      exact ⟨[], rfl, by simp⟩
    · have hbn : ¬ (b : Int) < 0 := by omega
      simp only [go_sem, hbn]
      refine Cc_of (hf b hbl hb0) ?_
      rintro h' r ⟨rfl, o, rfl, ho1, ho2⟩
      have hwo : IntKind.i64.wrap ((o.length : Int) - 1) = ((o.length - 1 : Nat) : Int) := by rw [wrap_i64_id] <;> omega
      simp only [go_sem, encI_len, hwo, Int.toNat_natCast, encI_take2]
      have htl : (o.take (o.length - 1)).length ≤ o.length := by simp
      refine ⟨⟨by omega, wid_encI _⟩, ?_⟩
      refine ⟨⟨wid_encI _, by omega⟩, ?_⟩
      refine end_pure ?_
      simp only [go_sem]
      refine ⟨?_, (v : Int) :: o.take (o.length - 1), ?_, by simp; omega⟩
      · simp [encI]
      · simp [encI, List.take_take]
theorem girth_ok (g : List (List Int)) (sh : List Bool) (hg : gphP g) (hsm : smallG g) (hsh : sh.length = g.length) :
    ACalls Try.prog 52 [.p (.sl (encG g)), .p (.sl (encT sh))] [] fun h r => h = [] ∧ ∃ o : List Int, r = .tup [.p (.int .i64 (o.length : Nat)), .p (.sl (encI o)), .p (.int .i64 0)] ∧ o.length ≤ 30 := by
  have ht := fun v hv => through_ok g sh v hg hsh hv
  have hl := hg.1
  refine ACalls_X Try.func52 rfl enters52 (by simp [Try.f52]) ?_
  simp only [go_sem]
  refine Cc_of ((check4_ok g sh hsm)) ?_
  rintro h' r ⟨rfl, rfl⟩
  rw [if_pos hg, if_pos hsh]
  simp only [go_sem]
  refine X_loop_inv (fun q : Nat × List Int => ⟨[(0, .p (.sl (encG g))), (1, .p (.sl (encT sh))), (8, .p (.sl (encI q.2))), (9, .p (.int .i64 (q.1 : Nat)))], [], 46⟩)
    (fun q => q.1 ≤ g.length ∧ q.2.length ≤ 30) (fun q => g.length - q.1) (0, []) ⟨Nat.zero_le _, by simp⟩ ((Wk.nil (t := 8) (q := 42) (sz := 1) 3 rfl rfl (by decide)).trans ((Wk.pure (t := 8) (id := 42) (sz := 1) (e := 3) (es := []) rfl rfl).trans (Wk.forget (by simp [Le, LeE, LeH, get, envIds, hpIds, KeepH, D.ids, idsL, AO.ids, setL, base, encI])))) ?_
  rintro ⟨v, bst⟩ m ⟨hv, hb⟩ ih
  simp only at hv hb
  simp only [go_sem, encG_len]
  refine Cn_split (fun h3 => ?_) (fun h3 => ?_)
  · have hvt : v < g.length := by simp at h3; omega
    have hwv := wrap_succ v (by omega)
    simp only [go_sem]
    refine Cc_of (ht v hvt) ?_
    rintro h' r ⟨rfl, o, rfl, ho⟩
    simp only [go_sem, encI_len]
    cases c1 : decide (0 < (o.length : Int))
    · simp only [go_sem, encI_len, c1, hwv]
      refine ih (v + 1, bst) _ ⟨hvt, hb⟩ (by simp only; omega) ?_
      (refine Wk.forget ?_; simp [Le, LeE, LeH, get, envIds, hpIds, KeepH, D.ids, idsL, AO.ids, setL, base]; done)
    cases c2 : decide ((bst.length : Int) = 0)
    rotate_left
    · simp only [go_sem, encI_len, c1, c2, hwv]
      refine ih (v + 1, o) _ ⟨hvt, ho⟩ (by simp only; omega) ?_
      (refine Wk.forget ?_; simp [Le, LeE, LeH, get, envIds, hpIds, KeepH, D.ids, idsL, AO.ids, setL, base]; done)
    cases c3 : decide ((o.length : Int) < (bst.length : Int))
    · simp only [go_sem, encI_len, c1, c2, c3, hwv]
      refine ih (v + 1, bst) _ ⟨hvt, hb⟩ (by simp only; omega) ?_
      (refine Wk.forget ?_; simp [Le, LeE, LeH, get, envIds, hpIds, KeepH, D.ids, idsL, AO.ids, setL, base]; done)
    · simp only [go_sem, encI_len, c1, c2, c3, hwv]
      refine ih (v + 1, o) _ ⟨hvt, ho⟩ (by simp only; omega) ?_
      (refine Wk.forget ?_; simp [Le, LeE, LeH, get, envIds, hpIds, KeepH, D.ids, idsL, AO.ids, setL, base]; done)
  · simp only [go_sem, encI_len]
    refine end_pure ?_
    simp only [go_sem]
    exact ⟨bst, rfl, hb⟩
end Go.Am
end
section
namespace Go.Am
open Go Go.Proofs
set_option maxRecDepth 100000
set_option linter.unusedVariables false
set_option linter.unusedSimpArgs false
def cellsV (n : Nt) : Int := (n.blocks.length : Int) + sumS n.spurs
theorem sumS_mono {nb : Nat} {l : List Spr} (h : spursP nb l) : ∀ (k i : Nat), i + k ≤ l.length → sumS (l.take i) ≤ sumS (l.take (i + k))
  | 0, _, _ => Int.le_refl _
  | k + 1, i, hk => by
    have h1 := sumS_mono h k i (by omega)
    have h2 := h (i + k) (by omega)
    obtain ⟨_, _, _, _, h5, _, _⟩ := h2
    rw [show i + (k + 1) = (i + k) + 1 by omega, take_snoc l (i + k) spr0 (by omega), sumS_snoc]
    omega
theorem spur_rng {nb : Nat} {l : List Spr} (h : spursP nb l) {i : Nat} (hi : i < l.length) :
    (nb : Int) ≤ (l.getD i spr0).base ∧ (l.getD i spr0).base + (l.getD i spr0).slots ≤ (nb : Int) + sumS l ∧ (l.getD i spr0).base = (nb : Int) + sumS (l.take i) := by
  obtain ⟨_, _, _, _, h5, h6, h7⟩ := h i hi
  have h1 := sumS_rng nb l i (by omega) (fun j hj => h j (by omega))
  have h2 := sumS_mono h (l.length - (i + 1)) (i + 1) (by omega)
  rw [show i + 1 + (l.length - (i + 1)) = l.length by omega, List.take_length, take_snoc l i spr0 hi, sumS_snoc] at h2
  omega
theorem sumS_all {nb : Nat} {l : List Spr} (h : spursP nb l) : 0 ≤ sumS l ∧ sumS l ≤ 4 * l.length := by
  have := sumS_rng nb l l.length (Nat.le_refl _) h
  rw [List.take_length] at this
  exact this
theorem cells_ok (n : Nt) (hn : validN n) : ACalls Try.prog 54 [.agg n.cs] [] fun h r => h = [] ∧ r = .p (.int .i64 (cellsV n)) := by
  obtain ⟨e1, e2, e3, e4, e5, hsp, e7, e8⟩ := hn
  have hb24 := e1.2.1
  refine ACalls_X Try.func54 rfl enters54 (by simp [Try.f54]) ?_
  simp only [go_sem, Nt.cs, encK_len]
  refine X_loop_inv (fun i : Nat => ⟨[(1, .ptr 1 0), (3, .p (.int .i64 ((n.blocks.length : Int) + sumS (n.spurs.take i)))), (4, .p (.int .i64 (i : Nat)))], [(1, .box (Nt.cs n))], 24⟩)
    (fun i => i ≤ n.spurs.length) (fun i => n.spurs.length - i) 0 (Nat.zero_le _) (Wk.forget (by simp [Le, LeE, LeH, get, envIds, hpIds, KeepH, D.ids, idsL, AO.ids, setL, base, Nt.cs, sumS])) ?_
  rintro i m hi ih
  simp only [go_sem, Nt.cs, encP_len]
  refine Cn_split (fun h2 => ?_) (fun h2 => ?_)
  · have hlt : i < n.spurs.length := by simp at h2; omega
    have hw := wrap_succ i (by omega)
    have hg := encP_get n.spurs i hlt
    have hi0 : (0 : Int) ≤ (i : Int) ∧ (i : Int) < (n.spurs.length : Int) := by omega
    have hr := sumS_rng n.blocks.length n.spurs (i + 1) hlt (fun j hj => hsp j (by omega))
    have hts : sumS (n.spurs.take (i + 1)) = sumS (n.spurs.take i) + (n.spurs.getD i spr0).slots := by rw [take_snoc n.spurs i spr0 hlt, sumS_snoc]
    rw [hts] at hr
    have hwb : IntKind.i64.wrap ((n.blocks.length : Int) + sumS (n.spurs.take i) + (n.spurs.getD i spr0).slots) = (n.blocks.length : Int) + sumS (n.spurs.take i) + (n.spurs.getD i spr0).slots := by rw [wrap_i64_id] <;> omega
    simp only [go_sem, Nt.cs, encP_len, Int.toNat_natCast, hg, hi0, hwb, hw]
    refine ih (i + 1) _ hlt (by omega) ?_
    (refine Wk.forget ?_; simp [Le, LeE, LeH, get, envIds, hpIds, KeepH, D.ids, idsL, AO.ids, setL, base, Nt.cs, hts, Int.add_assoc]; done)
  · simp only [go_sem]
    have : i = n.spurs.length := by simp at h2; omega
    subst this
    rw [List.take_length]
    rfl
def openB (sh : List Bool) (s : Spr) : Bool := !sh.getD s.inn.toNat false && (!sh.getD s.out.toNat false && (List.range s.slots.toNat).all fun j => !sh.getD (s.base.toNat + j) false)
theorem open_ok (n : Nt) (hn : validN n) (sh : List Bool) (hsh : (sh.length : Int) = cellsV n) (s : Nat) (hs : s < n.spurs.length) :
    ACalls Try.prog 80 [.agg n.cs, .p (.sl (encT sh)), .p (.int .i64 (s : Nat))] [] fun h r => h = [] ∧ r = .p (.bool (openB sh (n.spurs.getD s spr0))) := by
  obtain ⟨e1, e2, e3, e4, e5, hsp, e7, e8⟩ := hn
  have hb24 := e1.2.1
  obtain ⟨i1, i2, i3, i4, i5, i6, i7⟩ := hsp s hs
  obtain ⟨r1, r2, r3⟩ := spur_rng hsp hs
  have hall := sumS_all hsp
  have hg := encP_get n.spurs s hs
  have hs0 : (0 : Int) ≤ (s : Int) ∧ (s : Int) < (n.spurs.length : Int) := by omega
  unfold cellsV at hsh
  refine ACalls_X Try.func80 rfl enters80 (by simp [Try.f80]) ?_
  simp only [go_sem, Nt.cs, encP_len, Int.toNat_natCast, hg, hs0]
  generalize n.spurs.getD s spr0 = sp at *
  clear hg
  obtain ⟨nm, dp, inn, out, sl, bs⟩ := sp
  simp only at i1 i2 i3 i4 i5 i6 i7 r1 r2 r3
  obtain ⟨a, rfl⟩ : ∃ a : Nat, inn = (a : Int) := ⟨inn.toNat, by omega⟩
  obtain ⟨b, rfl⟩ : ∃ b : Nat, out = (b : Int) := ⟨out.toNat, by omega⟩
  obtain ⟨c, rfl⟩ : ∃ c : Nat, bs = (c : Int) := ⟨bs.toNat, by omega⟩
  obtain ⟨d, rfl⟩ : ∃ d : Nat, sl = (d : Int) := ⟨sl.toNat, by omega⟩
  have ha := encT_get sh a (by omega)
  have hb := encT_get sh b (by omega)
  have ha0 : (0 : Int) ≤ (a : Int) ∧ (a : Int) < (sh.length : Int) := by omega
  have hb0 : (0 : Int) ≤ (b : Int) ∧ (b : Int) < (sh.length : Int) := by omega
  have hO : openB sh ⟨nm, dp, a, b, d, c⟩ = (!sh.getD a false && (!sh.getD b false && (List.range d).all fun j => !sh.getD (c + j) false)) := by simp [openB]
  cases c1 : sh.getD a false
  rotate_left
  · simp only [go_sem, encT_len, Int.toNat_natCast, ha, ha0, c1]
    rw [hO, c1]; simp
  cases c2 : sh.getD b false
  rotate_left
  · simp only [go_sem, encT_len, Int.toNat_natCast, ha, ha0, c1, hb, hb0, c2]
    rw [hO, c1, c2]; simp
  simp only [go_sem, encT_len, Int.toNat_natCast, ha, ha0, c1, hb, hb0, c2]
  rw [hO, c1, c2]
  refine X_loop_inv (fun j : Nat => ⟨[(1, .p (.sl (encT sh))), (7, .ptr 7 0), (8, .p (.int .i64 ((c + j : Nat) : Int)))], [(7, .box [.p (.str nm), .p (.bool dp), .p (.int .i64 (a : Nat)), .p (.int .i64 (b : Nat)), .p (.int .i64 (d : Nat)), .p (.int .i64 (c : Nat))])], 41⟩)
    (fun j => j ≤ d ∧ ∀ u, u < j → sh.getD (c + u) false = false) (fun j => d - j) 0 ⟨Nat.zero_le _, fun u hu => absurd hu (Nat.not_lt_zero _)⟩ (Wk.forget (by simp [Le, LeE, LeH, get, envIds, hpIds, KeepH, D.ids, idsL, AO.ids, setL, base])) ?_
  rintro j m ⟨hj, hall2⟩ ih
  have hwe : IntKind.i64.wrap ((c : Int) + (d : Int)) = (c : Int) + (d : Int) := by rw [wrap_i64_id] <;> omega
  simp only [go_sem, hwe]
  refine Cn_split (fun h2 => ?_) (fun h2 => ?_)
  · have hjt : j < d := by simp at h2; omega
    have hw := wrap_succ (c + j) (by omega)
    have hgj := encT_get sh (c + j) (by omega)
    have hj0 : (0 : Int) ≤ ((c + j : Nat) : Int) ∧ ((c + j : Nat) : Int) < (sh.length : Int) := by omega
    simp only [go_sem, encT_len, Int.toNat_natCast, hgj, hj0]
    cases c3 : sh.getD (c + j) false
    · simp only [go_sem, c3, hw]
      refine ih (j + 1) _ ⟨hjt, fun u hu => ?_⟩ (by omega) ?_
      · rcases Nat.lt_succ_iff_lt_or_eq.1 hu with h5 | rfl
        · exact hall2 u h5
        · exact c3
      · (refine Wk.forget ?_; simp [Le, LeE, LeH, get, envIds, hpIds, KeepH, D.ids, idsL, AO.ids, setL, base, Nat.add_assoc]; done)
    · simp only [go_sem, c3]
      have hex : ((List.range d).all fun j => !sh.getD (c + j) false) = false := by
        rw [List.all_eq_false]
        exact ⟨j, List.mem_range.2 hjt, by rw [c3]; simp⟩
      rw [hex]
  · simp only [go_sem]
    have : j = d := by simp at h2; omega
    subst this
    have hal : ((List.range j).all fun j => !sh.getD (c + j) false) = true := by
      rw [List.all_eq_true]
      intro u hu
      rw [hall2 u (List.mem_range.1 hu)]; rfl
    rw [hal]
def slotsV (sh : List Bool) : List Spr → Int
  | [] => 0
  | s :: r => (if s.depot && openB sh s then s.slots else 0) + slotsV sh r
theorem slotsV_snoc (sh : List Bool) (l : List Spr) (s : Spr) : slotsV sh (l ++ [s]) = slotsV sh l + (if s.depot && openB sh s then s.slots else 0) := by
  induction l with
  | nil => simp [slotsV]
  | cons x r ih => simp only [List.cons_append, slotsV, ih]; omega
theorem slotsV_rng (sh : List Bool) {nb : Nat} {l : List Spr} (h : spursP nb l) : ∀ k, k ≤ l.length → 0 ≤ slotsV sh (l.take k) ∧ slotsV sh (l.take k) ≤ 4 * k
  | 0, _ => by simp [slotsV]
  | k + 1, hk => by
    have h1 := slotsV_rng sh h k (by omega)
    obtain ⟨_, _, _, _, h5, h6, _⟩ := h k (by omega)
    rw [take_snoc l k spr0 (by omega), slotsV_snoc]
    split <;> omega
theorem slots_ok (n : Nt) (hn : validN n) (sh : List Bool) (hsh : (sh.length : Int) = cellsV n) :
    ACalls Try.prog 53 [.agg n.cs, .p (.sl (encT sh))] [] fun h r => h = [] ∧ r = .p (.int .i64 (slotsV sh n.spurs)) := by
  have hO := fun s hs => open_ok n hn sh hsh s hs
  obtain ⟨e1, e2, e3, e4, e5, hsp, e7, e8⟩ := hn
  refine ACalls_X Try.func53 rfl enters53 (by simp [Try.f53]) ?_
  simp only [go_sem, Nt.cs]
  refine X_loop_inv (fun i : Nat => ⟨[(1, .p (.sl (encT sh))), (2, .ptr 2 0), (5, .p (.int .i64 (slotsV sh (n.spurs.take i)))), (6, .p (.int .i64 (i : Nat)))], [(2, .box (Nt.cs n))], 35⟩)
    (fun i => i ≤ n.spurs.length) (fun i => n.spurs.length - i) 0 (Nat.zero_le _) (Wk.forget (by simp [Le, LeE, LeH, get, envIds, hpIds, KeepH, D.ids, idsL, AO.ids, setL, base, Nt.cs, slotsV])) ?_
  rintro i m hi ih
  simp only [go_sem, Nt.cs, encP_len]
  refine Cn_split (fun h2 => ?_) (fun h2 => ?_)
  · have hlt : i < n.spurs.length := by simp at h2; omega
    have hw := wrap_succ i (by omega)
    have hg := encP_get n.spurs i hlt
    have hi0 : (0 : Int) ≤ (i : Int) ∧ (i : Int) < (n.spurs.length : Int) := by omega
    have hr := slotsV_rng sh hsp i hi
    have hts : slotsV sh (n.spurs.take (i + 1)) = slotsV sh (n.spurs.take i) + (if (n.spurs.getD i spr0).depot && openB sh (n.spurs.getD i spr0) then (n.spurs.getD i spr0).slots else 0) := by rw [take_snoc n.spurs i spr0 hlt, slotsV_snoc]
    have hOi := hO i hlt
    obtain ⟨_, _, _, _, i5, i6, _⟩ := hsp i hlt
    generalize n.spurs.getD i spr0 = s at *
    have hwb : IntKind.i64.wrap (slotsV sh (n.spurs.take i) + s.slots) = slotsV sh (n.spurs.take i) + s.slots := by rw [wrap_i64_id] <;> omega
    generalize slotsV sh (n.spurs.take i) = S at *
    cases c1 : s.depot
    · simp only [go_sem, Nt.cs, encP_len, Int.toNat_natCast, hg, hi0, c1, hw]
      refine ih (i + 1) _ hlt (by omega) ?_
      (refine Wk.forget ?_; simp [Le, LeE, LeH, get, envIds, hpIds, KeepH, D.ids, idsL, AO.ids, setL, base, Nt.cs, hts, c1]; done)
    simp only [go_sem, Nt.cs, encP_len, Int.toNat_natCast, hg, hi0, c1]
    refine Cc_of ((hOi)) ?_
    rintro h' r ⟨rfl, rfl⟩
    cases c2 : openB sh s
    · simp only [go_sem, c2, hw]
      refine ih (i + 1) _ hlt (by omega) ?_
      (refine Wk.forget ?_; simp [Le, LeE, LeH, get, envIds, hpIds, KeepH, D.ids, idsL, AO.ids, setL, base, Nt.cs, hts, c1, c2]; done)
    · simp only [go_sem, Nt.cs, encP_len, Int.toNat_natCast, hg, hi0, c1, c2, hwb, hw]
      refine ih (i + 1) _ hlt (by omega) ?_
      (refine Wk.forget ?_; simp [Le, LeE, LeH, get, envIds, hpIds, KeepH, D.ids, idsL, AO.ids, setL, base, Nt.cs, hts, c1, c2]; done)
  · simp only [go_sem]
    have : i = n.spurs.length := by simp at h2; omega
    subst this
    rw [List.take_length]
end Go.Am
end
section
namespace Go.Am
open Go Go.Proofs
set_option maxRecDepth 100000
set_option linter.unusedVariables false
set_option linter.unusedSimpArgs false
theorem take_rep (n : Nat) : List.take n (List.replicate n [Pd.bool false]) = encT (List.replicate n false) := by simp [encT]
theorem graph_of_valid {n : Nt} (hn : validN n) : gphP n.next ∧ smallG n.next ∧ n.next.length = n.blocks.length := by
  obtain ⟨⟨h1, h2, h3, h4⟩, _⟩ := hn
  refine ⟨⟨by omega, fun i hi => ?_⟩, ⟨by omega, fun r hr => ?_⟩, h3⟩
  · rw [h3]; exact (h4 i (by omega)).2.2
  · obtain ⟨i, hi, rfl⟩ := List.mem_iff_getElem.1 hr
    have := (h4 i (by omega)).2.1
    rw [getD_eq hi] at this
    omega
theorem small_of_valid {n : Nt} (hn : validN n) : smallN n := by
  have hg := graph_of_valid hn
  obtain ⟨⟨h1, h2, h3, h4⟩, h5, h6, h7, _⟩ := hn
  exact ⟨by omega, hg.2.1, by omega, by omega⟩
theorem fleet_ok (n : Nt) (hn : validN n) : ACalls Try.prog 33 [.agg n.cs] [] fun h r => h = [] ∧ ∃ (o : List Int) (sl cap : Int), r = .tup [.agg [.p (.int .i64 (o.length : Nat)), .p (.sl (encI o)), .p (.int .i64 sl), .p (.int .i64 cap)], .p (.int .i64 0)] ∧ cap ≤ sl ∧ sl = slotsV (List.replicate (cellsV n).toNat false) n.spurs := by
  have hV := validN_ok n (small_of_valid hn)
  rw [decide_eq_true hn] at hV
  obtain ⟨hg, hsm, hnl⟩ := graph_of_valid hn
  have hG := girth_ok n.next (List.replicate n.next.length false) hg hsm (by simp)
  have hC := cells_ok n hn
  have hS := fun (c : Nat) (hc : (c : Int) = cellsV n) => slots_ok n hn (List.replicate c false) (by simpa using hc)
  have hsp := hn.2.2.2.2.2.1
  have hb24 := hn.1.2.1
  have hs6 := hn.2.1
  have hall := sumS_all hsp
  obtain ⟨c, hc⟩ : ∃ c : Nat, cellsV n = (c : Int) := ⟨(cellsV n).toNat, by unfold cellsV; omega⟩
  have hc2 : c ≤ 48 := by unfold cellsV at hc; omega
  have hS := hS c hc.symm
  have hsr := slotsV_rng (List.replicate c false) hsp n.spurs.length (Nat.le_refl _)
  rw [List.take_length] at hsr
  rw [hc] at hC ⊢
  rw [Int.toNat_natCast]
  generalize slotsV (List.replicate c false) n.spurs = S at *
  rw [hnl] at hG
  refine ACalls_X Try.func33 rfl enters33 (by simp [Try.f33]) ?_
  simp only [go_sem, Nt.cs]
  refine Cc_of ((hV)) ?_
  rintro h' r ⟨rfl, rfl⟩
  simp only [go_sem, Nt.cs]
  refine X_any0 mixed (p := [(0, 0), (1, 0), (2, 0), (3, 0), (4, 0), (5, 1), (6, 2), (7, 0), (8, 0), (9, 0), (10, 0), (11, 0), (12, 0), (13, 0)]) (by kernel_rfl) (by simp [LeH, get]) ?_
  simp only [go_sem, Nt.cs, encK_len, Int.toNat_natCast, List.length_replicate, take_rep]
  refine ⟨by omega, ?_⟩
  refine Gh_of hG ?_
  rintro h' r ⟨rfl, o, rfl, ho⟩
  simp only [go_sem, Nt.cs]
  refine X_any0 mixed (p := [(0, 0), (1, 0), (2, 0), (3, 0), (8, 1), (4, 2), (5, 1), (6, 2), (7, 0), (9, 3)]) (by kernel_rfl) (by simp [LeH, get]) ?_
  simp only [go_sem, Nt.cs]
  refine Gh_of ((hC)) ?_
  rintro h' r ⟨rfl, rfl⟩
  simp only [go_sem, Nt.cs, Int.toNat_natCast, List.length_replicate, take_rep]
  refine ⟨by omega, ?_⟩
  refine Gh_of ((hS)) ?_
  rintro h' r ⟨rfl, rfl⟩
  simp only [go_sem, Nt.cs]
  cases c1 : decide (0 < (o.length : Int))
  · simp only [go_sem, c1]
    refine end_pure ?_
    simp only [go_sem]
    exact ⟨o, S, S, rfl, Int.le_refl _, rfl⟩
  · have hw1 : IntKind.i64.wrap ((o.length : Int) - 1) = (o.length : Int) - 1 := by rw [wrap_i64_id] <;> omega
    simp only [go_sem, c1, hw1]
    refine end_pure ?_
    simp only [go_sem]
    exact ⟨o, S, _, rfl, by omega, rfl⟩
end Go.Am
end
section
namespace Go.Am
open Go Go.Proofs
set_option maxRecDepth 100000
set_option linter.unusedVariables false
set_option linter.unusedSimpArgs false
def slotL (s : Spr) : List Int := if s.depot = true then (List.range s.slots.toNat).map (fun j => s.base + ((j : Nat) : Int)) else []
def slotList (l : List Spr) : List Int := l.flatMap slotL
theorem slotList_snoc (l : List Spr) (s : Spr) : slotList (l ++ [s]) = slotList l ++ slotL s := by simp [slotList]
theorem slotL_mem {s : Spr} {x : Int} : x ∈ slotL s ↔ inD x s = true := by
  unfold slotL inD
  by_cases h : s.depot = true
  · rw [if_pos h, h]
    simp only [List.mem_map, List.mem_range, Bool.true_and, Bool.and_eq_true, decide_eq_true_eq]
    constructor
    · rintro ⟨j, hj, rfl⟩; omega
    · rintro ⟨h1, h2⟩; exact ⟨(x - s.base).toNat, by omega, by omega⟩
  · have h2 : s.depot = false := by simpa using h
    rw [if_neg h, h2]; simp
theorem slotL_nodup (s : Spr) : (slotL s).Nodup := by
  unfold slotL
  split
  · rw [List.nodup_iff_pairwise_ne, List.pairwise_map]
    exact (List.pairwise_lt_range).imp fun h => by omega
  · exact List.nodup_nil
theorem slotList_ok {nb : Nat} {l : List Spr} (h : spursP nb l) : ∀ k, k ≤ l.length → (slotList (l.take k)).Nodup ∧ ∀ x ∈ slotList (l.take k), x < (nb : Int) + sumS (l.take k)
  | 0, _ => by simp [slotList]
  | k + 1, hk => by
    obtain ⟨h1, h2⟩ := slotList_ok h k (by omega)
    have hs := h k (by omega)
    rw [take_snoc l k spr0 (by omega), slotList_snoc, sumS_snoc]
    generalize l.getD k spr0 = s at *
    obtain ⟨_, _, _, _, h5, h6, h7⟩ := hs
    have hm : ∀ x ∈ slotL s, s.base ≤ x ∧ x < s.base + s.slots := fun x hx => by
      have := slotL_mem.1 hx
      unfold inD at this
      simp at this
      exact ⟨this.2.1, this.2.2⟩
    refine ⟨?_, fun x hx => ?_⟩
    · rw [List.nodup_append]
      refine ⟨h1, slotL_nodup s, fun x hx y hy e => ?_⟩
      have h8 := h2 x hx
      have h9 := hm y hy
      omega
    · rcases List.mem_append.1 hx with hx | hx
      · have := h2 x hx; omega
      · have := hm x hx; omega
theorem getD_rep (c k : Nat) : (List.replicate c false).getD k false = false := by
  simp only [List.getD, List.getElem?_replicate]; split <;> rfl
theorem openB_rep (c : Nat) (s : Spr) : openB (List.replicate c false) s = true := by
  unfold openB
  simp only [getD_rep]
  simp
theorem slotsV_list {nb : Nat} {l : List Spr} (h : spursP nb l) (c : Nat) : ∀ k, k ≤ l.length → slotsV (List.replicate c false) (l.take k) = ((slotList (l.take k)).length : Int)
  | 0, _ => by simp [slotsV, slotList]
  | k + 1, hk => by
    have h1 := slotsV_list h c k (by omega)
    have hs := h k (by omega)
    rw [take_snoc l k spr0 (by omega), slotsV_snoc, slotList_snoc, List.length_append, h1, openB_rep]
    obtain ⟨_, _, _, _, h5, h6, h7⟩ := hs
    generalize l.getD k spr0 = s at *
    unfold slotL
    cases hd : s.depot
    · simp
    · simp; omega
theorem free_slot {nb : Nat} {l : List Spr} (h : spursP nb l) (c : Nat) {rb : List Int} (hr : (rb.length : Int) < slotsV (List.replicate c false) l) : ∃ s ∈ l, ∃ j : Nat, s.depot = true ∧ (j : Int) < s.slots ∧ s.base + (j : Int) ∉ rb := by
  have h1 := slotsV_list h c l.length (Nat.le_refl _)
  have h2 := (slotList_ok h l.length (Nat.le_refl _)).1
  rw [List.take_length] at h1 h2
  have hne : ¬ ∀ x ∈ slotList l, x ∈ rb := fun hh => by have := ph_le _ rb h2 hh; omega
  have : ∃ x, x ∈ slotList l ∧ x ∉ rb := Classical.byContradiction fun hc => hne fun x hx => Classical.byContradiction fun hx2 => hc ⟨x, hx, hx2⟩
  obtain ⟨x, hx, hx2⟩ := this
  obtain ⟨s, hs, hxs⟩ := List.mem_flatMap.1 hx
  have h3 := slotL_mem.1 hxs
  unfold inD at h3
  simp at h3
  exact ⟨s, hs, (x - s.base).toNat, h3.1, by omega, by rw [show s.base + (((x - s.base).toNat : Nat) : Int) = x by omega]; exact hx2⟩
end Go.Am
end
section
namespace Go.Am
open Go Go.Proofs
set_option maxRecDepth 100000
set_option linter.unusedVariables false
set_option linter.unusedSimpArgs false
def RP (b i : Nat) (r : List Int) : Prop := r.Pairwise (· < ·) ∧ (∀ x ∈ r, 0 ≤ x ∧ x < (b : Int) ∧ x ≠ (i : Int)) ∧ r.length ≤ 4 ∧ (1 < b → (((i + 1) % b : Nat) : Int) ∈ r)
theorem RP.row {b i : Nat} {r : List Int} (h : RP b i r) : rowP b i r := by
  intro k hk
  obtain ⟨h1, h2, _, _⟩ := h
  have h3 := h2 _ (getD_mem r k 0 hk)
  refine ⟨h3.1, h3.2.1, h3.2.2, fun hk0 => ?_⟩
  rw [getD_eq hk, getD_eq (show k - 1 < r.length by omega)]
  exact List.pairwise_iff_getElem.1 h1 (k - 1) k (by omega) hk (by omega)
theorem RP.ins {b i : Nat} {r : List Int} {x : Int} (h : RP b i r) (h0 : 0 ≤ x) (hb : x < (b : Int)) (hi : x ≠ (i : Int)) (hn : x ∉ r) (hl : r.length < 4) : RP b i (insV r x) := by
  obtain ⟨h1, h2, h3, h4⟩ := h
  refine ⟨insV_asc r x h1 hn, fun y hy => ?_, by rw [insV_len]; omega, fun hb1 => (insV_mem r x _).2 (.inr (h4 hb1))⟩
  rcases (insV_mem r x y).1 hy with rfl | hy
  · exact ⟨h0, hb, hi⟩
  · exact h2 y hy
theorem encG_tail (l : List (List Int)) (i : Nat) : ((encG l)[i]?.getD []).tail = [] := by
  unfold encG
  rw [List.getElem?_map]
  cases l[i]? <;> rfl
set_option maxHeartbeats 800000 in
theorem ring_ok (l : List Int) (at_ b : Nat) (bl : List Blk) (nx : List (List Int)) (hat : at_ < 1000000) (hb1 : 1 ≤ b) (hb : b ≤ 10) (hbl : bl.length = b) (hnx : nx.length = b) (hemp : ∀ i, i < b → nx.getD i [] = []) :
    ACalls Try.prog 32 [.ptr 1000000 0, .ptr 1000001 0]
      [(1000000, .box (tapeC l at_)), (1000001, .box [.ref 1000002 0 b b, .ref 1000003 0 b b, .cl [], .cl [], .p (.int .i64 0), .p (.int .i64 0), .p (.int .i64 0), .p (.int .i64 0)]), (1000002, .arr 56 3 (encK bl)), (1000003, .arr 23 1 (encG nx))]
      fun h r => ∃ at2 nx2, at2 ≤ at_ + 20 ∧ nx2.length = b ∧ (∀ i, i < b → RP b i (nx2.getD i [])) ∧ r = .tup [] ∧
        h = [(1000000, .box (tapeC l at2)), (1000001, .box [.ref 1000002 0 b b, .ref 1000003 0 b b, .cl [], .cl [], .p (.int .i64 0), .p (.int .i64 0), .p (.int .i64 0), .p (.int .i64 0)]), (1000002, .arr 56 3 (encK bl)), (1000003, .arr 23 1 (encG nx2))] := by
  refine ACalls_X Try.func32 rfl enters32 (by simp [Try.f32]) ?_
  simp only [go_sem, tapeC]
  refine ⟨by rw [encK_len]; exact hbl.symm, ?_⟩
  refine X_loop_inv (fun q : Nat × List (List Int) => ⟨[(0, .ptr 1000000 0), (1, .ptr 1000001 0), (4, .p (.int .i64 (b : Nat))), (5, .p (.int .i64 (q.1 : Nat)))],
      [(1000000, .box [.p (.sl (encI l)), .p (.int .i64 (at_ : Nat))]), (1000001, .box [.ref 1000002 0 b b, .ref 1000003 0 b b, .cl [], .cl [], .p (.int .i64 0), .p (.int .i64 0), .p (.int .i64 0), .p (.int .i64 0)]), (1000002, .arr 56 3 (encK bl)), (1000003, .arr 23 1 (encG q.2))], 98⟩)
    (fun q => q.1 ≤ b ∧ q.2.length = b ∧ (∀ j, j < q.1 → RP b j (q.2.getD j [])) ∧ (∀ j, q.1 ≤ j → j < b → q.2.getD j [] = [])) (fun q => b - q.1) (0, nx) ⟨Nat.zero_le _, hnx, fun j hj => absurd hj (Nat.not_lt_zero _), fun j _ hj => hemp j hj⟩ (Wk.forget (by simp [Le, LeE, LeH, get, envIds, hpIds, KeepH, D.ids, idsL, AO.ids, setL, base, encG])) ?_
  rintro ⟨i, g⟩ m ⟨hi, hgl, hdone, hrest⟩ ih
  simp only at hi hgl hdone hrest
  cases c1 : decide ((i : Int) < (b : Int))
  rotate_left
  · cases c2 : decide (1 < (b : Int))
    rotate_left
    · have hib : i < b := by have := of_decide_eq_true c1; omega
      have hb2 : 1 < b := by have := of_decide_eq_true c2; omega
      have hw := wrap_succ i (by omega)
      have hmod : ((i + 1 : Nat) : Int).tmod (b : Int) = (((i + 1) % b : Nat) : Int) := by rw [Int.tmod_eq_emod_of_nonneg (by omega)]; omega
      have hne : ¬ (b : Int) = 0 := by omega
      have hi0 : (0 : Int) ≤ (i : Int) ∧ (i : Int) < (b : Int) := by omega
      simp only [go_sem, c1, c2]
      refine X_any0 mixed (p := [(0, 0), (1, 0), (2, 0), (3, 0), (4, 0), (5, 0), (6, 0), (7, 0), (8, 0), (9, 1), (10, 0), (11, 3)]) (by kernel_rfl) (by simp [LeH, get]) ?_
      simp only [go_sem, hw, hmod, hne, encG_len, hgl, Int.toNat_natCast, hi0]
      refine ih (i + 1, g.set i [(((i + 1) % b : Nat) : Int)]) _ ⟨hib, by simpa using hgl, fun j hj => ?_, fun j hj hjb => ?_⟩ (by simp only; omega) ?_
      · rw [getD_set]
        by_cases e : i = j
        · subst e
          rw [if_pos ⟨rfl, by omega⟩]
          have hm : (i + 1) % b < b := Nat.mod_lt _ (by omega)
          have hm2 : (i + 1) % b ≠ i := by
            intro h
            rcases Nat.lt_or_ge (i + 1) b with h5 | h5
            · rw [Nat.mod_eq_of_lt h5] at h; omega
            · have : i + 1 = b := by omega
              rw [this, Nat.mod_self] at h; omega
          refine ⟨List.pairwise_singleton _ _, fun x hx => ?_, by simp, fun _ => by simp⟩
          rw [List.mem_singleton] at hx
          subst hx
          omega
        · rw [if_neg (fun h => e h.1)]; exact hdone j (by omega)
      · rw [getD_set, if_neg (by omega)]; exact hrest j (by omega) hjb
      · (refine Wk.forget ?_; simp [Le, LeE, LeH, get, envIds, hpIds, KeepH, D.ids, idsL, AO.ids, setL, base, encG_set, encG_tail, encI]; done)
    · have hb0 : b = 1 := by have := of_decide_eq_false c2; omega
      have hi1 : i = 0 := by have := of_decide_eq_true c1; omega
      have hRP : ∀ u, u < b → RP b u (g.getD u []) := fun u hu => by
        rw [hrest u (by omega) hu]
        exact ⟨List.Pairwise.nil, fun x hx => absurd hx (by simp), by simp, fun h => absurd h (by omega)⟩
      simp only [go_sem, c1, c2]
      refine Cc_of ((next_ok l at_ 4 (by omega) (in64_small _ (by omega) (by omega)))) ?_
      rintro h' r ⟨rfl, rfl⟩
      obtain ⟨k0, hk0, hk4⟩ := nextV_rng l at_ 4 (by omega)
      simp only [go_sem, tapeC, hk0]
      refine X_loop_inv (fun q : Nat × Nat × List (List Int) => ⟨[(0, .ptr 1000000 0), (1, .ptr 1000001 0), (4, .p (.int .i64 (b : Nat))), (6, .p (.int .i64 (q.1 : Nat)))],
          [(1000000, .box [.p (.sl (encI l)), .p (.int .i64 (q.2.1 : Nat))]), (1000001, .box [.ref 1000002 0 b b, .ref 1000003 0 b b, .cl [], .cl [], .p (.int .i64 0), .p (.int .i64 0), .p (.int .i64 0), .p (.int .i64 0)]), (1000002, .arr 56 3 (encK bl)), (1000003, .arr 23 1 (encG q.2.2))], 98⟩)
        (fun q => q.1 ≤ 3 ∧ q.2.1 ≤ at_ + 1 + 3 * (3 - q.1) ∧ q.2.2.length = b ∧ ∀ i, i < b → RP b i (q.2.2.getD i [])) (fun q => q.1) (k0, at_ + 1, g) ⟨by simp only; omega, by simp only; omega, hgl, hRP⟩ (Wk.forget (by simp [Le, LeE, LeH, get, envIds, hpIds, KeepH, D.ids, idsL, AO.ids, setL, base, encG])) ?_
      rintro ⟨k, a, g2⟩ m2 ⟨hk3, hal, hg2l, hRP2⟩ ih2
      simp only at hk3 hal hg2l hRP2
      cases d1 : decide (0 < (k : Int))
      · simp only [go_sem, d1]
        refine end_own ?_
        simp only [go_sem]
        refine ⟨a, g2, by omega, hg2l, hRP2, ?_⟩
        first | exact ⟨rfl, rfl⟩ | rfl | simp
      cases d2 : decide (2 < (b : Int))
      · simp only [go_sem, d1, d2]
        refine end_own ?_
        simp only [go_sem]
        refine ⟨a, g2, by omega, hg2l, hRP2, ?_⟩
        first | exact ⟨rfl, rfl⟩ | rfl | simp
      have hkp : 1 ≤ k := by have := of_decide_eq_true d1; omega
      obtain ⟨k, rfl⟩ : ∃ j, k = j + 1 := ⟨k - 1, by omega⟩
      have hwk := wrap_pred k (by omega)
      have hb3 : 2 < b := by have := of_decide_eq_true d2; omega
      have hbz : (0 : Int) < (b : Int) := by omega
      obtain ⟨ii, hii, hiib⟩ := nextV_rng l a b hbz
      obtain ⟨jj, hjj, hjjb⟩ := nextV_rng l (a + 1) b hbz
      have hii0 : (0 : Int) ≤ (ii : Int) ∧ (ii : Int) < (b : Int) := by omega
      have hgi := encG_get g2 ii (by omega)
      have hRl := (hRP2 ii (by omega)).2.2.1
      simp only [go_sem, d1, d2]
      refine Cc_of ((next_ok l a b (by omega) (in64_small _ (by omega) (by omega)))) ?_
      rintro h' r ⟨rfl, rfl⟩
      simp only [go_sem, tapeC, hii]
      refine Cc_of ((next_ok l (a + 1) b (by omega) (in64_small _ (by omega) (by omega)))) ?_
      rintro h' r ⟨rfl, rfl⟩
      simp only [go_sem, tapeC, hjj]
      refine Cc_of ((next_ok l (a + 1 + 1) 3 (by omega) (in64_small _ (by omega) (by omega)))) ?_
      rintro h' r ⟨rfl, rfl⟩
      simp only [go_sem, tapeC]
      have hmod2 : (((ii : Int) + 2)).tmod (b : Int) = (((ii + 2) % b : Nat) : Int) := by
        rw [show (ii : Int) + 2 = ((ii + 2 : Nat) : Int) by omega, Int.tmod_eq_emod_of_nonneg (by omega)]
        exact (Int.natCast_emod _ _).symm
      have hwi : IntKind.i64.wrap ((ii : Int) + 2) = (ii : Int) + 2 := by rw [wrap_i64_id] <;> omega
      have hbne : ¬ (b : Int) = 0 := by omega
      have hm2 : (ii + 2) % b < b := Nat.mod_lt _ (by omega)
      cases d3 : decide (0 < nextV l (a + 1 + 1) 3)
      · skip
        have hJ0 : (0 : Int) ≤ ((jj : Nat) : Int) ∧ ((jj : Nat) : Int) < (b : Int) := by omega
        cases d4 : decide ((ii : Int) = ((jj : Nat) : Int))
        rotate_left
        · simp only [go_sem, d3, hwk, d4, hwk]
          refine ih2 (k, a + 1 + 1 + 1, g2) _ ⟨by simp only; omega, by simp only; omega, hg2l, hRP2⟩ (by simp only; omega) ?_
          (refine Wk.forget ?_; simp [Le, LeE, LeH, get, envIds, hpIds, KeepH, D.ids, idsL, AO.ids, setL, base]; done)
        simp only [go_sem, d3, hwk, d4, encG_len, hg2l, Int.toNat_natCast, hgi, hii0]
        refine Cc_of ((has_ok (g2.getD ii []) ((jj : Nat) : Int) (by omega))) ?_
        rintro h' r ⟨rfl, rfl⟩
        cases d5 : decide (((jj : Nat) : Int) ∈ g2.getD ii [])
        rotate_left
        · simp only [go_sem, d5, hwk]
          refine ih2 (k, a + 1 + 1 + 1, g2) _ ⟨by simp only; omega, by simp only; omega, hg2l, hRP2⟩ (by simp only; omega) ?_
          (refine Wk.forget ?_; simp [Le, LeE, LeH, get, envIds, hpIds, KeepH, D.ids, idsL, AO.ids, setL, base]; done)
        cases d6 : decide (((g2.getD ii []).length : Int) < 4)
        · simp only [go_sem, d5, encG_len, encI_len, hg2l, Int.toNat_natCast, hgi, hii0, d6, hwk]
          refine ih2 (k, a + 1 + 1 + 1, g2) _ ⟨by simp only; omega, by simp only; omega, hg2l, hRP2⟩ (by simp only; omega) ?_
          (refine Wk.forget ?_; simp [Le, LeE, LeH, get, envIds, hpIds, KeepH, D.ids, idsL, AO.ids, setL, base]; done)
        simp only [go_sem, d5, encG_len, encI_len, hg2l, Int.toNat_natCast, hgi, hii0, d6]
        refine X_any0 mixed (p := [(0, 0), (1, 0), (2, 0), (3, 0), (4, 0), (5, 0), (6, 0), (7, 0), (8, 0), (9, 0), (10, 0), (11, 0), (12, 0), (13, 2), (14, 0), (15, 3)]) (by kernel_rfl) (by simp [LeH, get]) ?_
        simp only [go_sem, encG_len, encI_len, hg2l, Int.toNat_natCast, hgi, hii0]
        refine Gh_of ((insert_ok (g2.getD ii []) ((jj : Nat) : Int) (by omega))) ?_
        rintro h' r ⟨rfl, rfl⟩
        simp only [go_sem, encG_len, hg2l, Int.toNat_natCast, hii0, hwk]
        refine ih2 (k, a + 1 + 1 + 1, g2.set ii (insV (g2.getD ii []) ((jj : Nat) : Int))) _ ⟨by simp only; omega, by simp only; omega, by simpa using hg2l, fun u hu => ?_⟩ (by simp only; omega) ?_
        · rw [getD_set]
          by_cases e : ii = u
          · subst e
            rw [if_pos ⟨rfl, by omega⟩]
            exact (hRP2 ii hu).ins hJ0.1 hJ0.2 (fun h => of_decide_eq_false d4 h.symm) (of_decide_eq_false d5) (by have := of_decide_eq_true d6; omega)
          · rw [if_neg (fun h => e h.1)]; exact hRP2 u hu
        · (refine Wk.forget ?_; simp [Le, LeE, LeH, get, envIds, hpIds, KeepH, D.ids, idsL, AO.ids, setL, base, encG_set, encG_tail]; done)
      · generalize (ii + 2) % b = J at hmod2 hm2
        have hJ0 : (0 : Int) ≤ ((J : Nat) : Int) ∧ ((J : Nat) : Int) < (b : Int) := by omega
        cases d4 : decide ((ii : Int) = ((J : Nat) : Int))
        rotate_left
        · simp only [go_sem, d3, hwi, hmod2, hbne, d4, hwk]
          refine ih2 (k, a + 1 + 1 + 1, g2) _ ⟨by simp only; omega, by simp only; omega, hg2l, hRP2⟩ (by simp only; omega) ?_
          (refine Wk.forget ?_; simp [Le, LeE, LeH, get, envIds, hpIds, KeepH, D.ids, idsL, AO.ids, setL, base]; done)
        simp only [go_sem, d3, hwi, hmod2, hbne, d4, encG_len, hg2l, Int.toNat_natCast, hgi, hii0]
        refine Cc_of ((has_ok (g2.getD ii []) ((J : Nat) : Int) (by omega))) ?_
        rintro h' r ⟨rfl, rfl⟩
        cases d5 : decide (((J : Nat) : Int) ∈ g2.getD ii [])
        rotate_left
        · simp only [go_sem, d5, hwk]
          refine ih2 (k, a + 1 + 1 + 1, g2) _ ⟨by simp only; omega, by simp only; omega, hg2l, hRP2⟩ (by simp only; omega) ?_
          (refine Wk.forget ?_; simp [Le, LeE, LeH, get, envIds, hpIds, KeepH, D.ids, idsL, AO.ids, setL, base]; done)
        cases d6 : decide (((g2.getD ii []).length : Int) < 4)
        · simp only [go_sem, d5, encG_len, encI_len, hg2l, Int.toNat_natCast, hgi, hii0, d6, hwk]
          refine ih2 (k, a + 1 + 1 + 1, g2) _ ⟨by simp only; omega, by simp only; omega, hg2l, hRP2⟩ (by simp only; omega) ?_
          (refine Wk.forget ?_; simp [Le, LeE, LeH, get, envIds, hpIds, KeepH, D.ids, idsL, AO.ids, setL, base]; done)
        simp only [go_sem, d5, encG_len, encI_len, hg2l, Int.toNat_natCast, hgi, hii0, d6]
        refine X_any0 mixed (p := [(0, 0), (1, 0), (2, 0), (3, 0), (4, 0), (5, 0), (6, 0), (7, 0), (8, 0), (9, 0), (10, 0), (11, 0), (12, 0), (13, 2), (14, 0), (15, 3)]) (by kernel_rfl) (by simp [LeH, get]) ?_
        simp only [go_sem, encG_len, encI_len, hg2l, Int.toNat_natCast, hgi, hii0]
        refine Gh_of ((insert_ok (g2.getD ii []) ((J : Nat) : Int) (by omega))) ?_
        rintro h' r ⟨rfl, rfl⟩
        simp only [go_sem, encG_len, hg2l, Int.toNat_natCast, hii0, hwk]
        refine ih2 (k, a + 1 + 1 + 1, g2.set ii (insV (g2.getD ii []) ((J : Nat) : Int))) _ ⟨by simp only; omega, by simp only; omega, by simpa using hg2l, fun u hu => ?_⟩ (by simp only; omega) ?_
        · rw [getD_set]
          by_cases e : ii = u
          · subst e
            rw [if_pos ⟨rfl, by omega⟩]
            exact (hRP2 ii hu).ins hJ0.1 hJ0.2 (fun h => of_decide_eq_false d4 h.symm) (of_decide_eq_false d5) (by have := of_decide_eq_true d6; omega)
          · rw [if_neg (fun h => e h.1)]; exact hRP2 u hu
        · (refine Wk.forget ?_; simp [Le, LeE, LeH, get, envIds, hpIds, KeepH, D.ids, idsL, AO.ids, setL, base, encG_set, encG_tail]; done)
  · have hie : i = b := by have := of_decide_eq_false c1; omega
    have hRP : ∀ u, u < b → RP b u (g.getD u []) := fun u hu => hdone u (by omega)
    simp only [go_sem, c1, c1]
    refine Cc_of ((next_ok l at_ 4 (by omega) (in64_small _ (by omega) (by omega)))) ?_
    rintro h' r ⟨rfl, rfl⟩
    obtain ⟨k0, hk0, hk4⟩ := nextV_rng l at_ 4 (by omega)
    simp only [go_sem, tapeC, hk0]
    refine X_loop_inv (fun q : Nat × Nat × List (List Int) => ⟨[(0, .ptr 1000000 0), (1, .ptr 1000001 0), (4, .p (.int .i64 (b : Nat))), (6, .p (.int .i64 (q.1 : Nat)))],
        [(1000000, .box [.p (.sl (encI l)), .p (.int .i64 (q.2.1 : Nat))]), (1000001, .box [.ref 1000002 0 b b, .ref 1000003 0 b b, .cl [], .cl [], .p (.int .i64 0), .p (.int .i64 0), .p (.int .i64 0), .p (.int .i64 0)]), (1000002, .arr 56 3 (encK bl)), (1000003, .arr 23 1 (encG q.2.2))], 98⟩)
      (fun q => q.1 ≤ 3 ∧ q.2.1 ≤ at_ + 1 + 3 * (3 - q.1) ∧ q.2.2.length = b ∧ ∀ i, i < b → RP b i (q.2.2.getD i [])) (fun q => q.1) (k0, at_ + 1, g) ⟨by simp only; omega, by simp only; omega, hgl, hRP⟩ (Wk.forget (by simp [Le, LeE, LeH, get, envIds, hpIds, KeepH, D.ids, idsL, AO.ids, setL, base, encG])) ?_
    rintro ⟨k, a, g2⟩ m2 ⟨hk3, hal, hg2l, hRP2⟩ ih2
    simp only at hk3 hal hg2l hRP2
    cases d1 : decide (0 < (k : Int))
    · simp only [go_sem, d1]
      refine end_own ?_
      simp only [go_sem]
      refine ⟨a, g2, by omega, hg2l, hRP2, ?_⟩
      first | exact ⟨rfl, rfl⟩ | rfl | simp
    cases d2 : decide (2 < (b : Int))
    · simp only [go_sem, d1, d2]
      refine end_own ?_
      simp only [go_sem]
      refine ⟨a, g2, by omega, hg2l, hRP2, ?_⟩
      first | exact ⟨rfl, rfl⟩ | rfl | simp
    have hkp : 1 ≤ k := by have := of_decide_eq_true d1; omega
    obtain ⟨k, rfl⟩ : ∃ j, k = j + 1 := ⟨k - 1, by omega⟩
    have hwk := wrap_pred k (by omega)
    have hb3 : 2 < b := by have := of_decide_eq_true d2; omega
    have hbz : (0 : Int) < (b : Int) := by omega
    obtain ⟨ii, hii, hiib⟩ := nextV_rng l a b hbz
    obtain ⟨jj, hjj, hjjb⟩ := nextV_rng l (a + 1) b hbz
    have hii0 : (0 : Int) ≤ (ii : Int) ∧ (ii : Int) < (b : Int) := by omega
    have hgi := encG_get g2 ii (by omega)
    have hRl := (hRP2 ii (by omega)).2.2.1
    simp only [go_sem, d1, d2]
    refine Cc_of ((next_ok l a b (by omega) (in64_small _ (by omega) (by omega)))) ?_
    rintro h' r ⟨rfl, rfl⟩
    simp only [go_sem, tapeC, hii]
    refine Cc_of ((next_ok l (a + 1) b (by omega) (in64_small _ (by omega) (by omega)))) ?_
    rintro h' r ⟨rfl, rfl⟩
    simp only [go_sem, tapeC, hjj]
    refine Cc_of ((next_ok l (a + 1 + 1) 3 (by omega) (in64_small _ (by omega) (by omega)))) ?_
    rintro h' r ⟨rfl, rfl⟩
    simp only [go_sem, tapeC]
    have hmod2 : (((ii : Int) + 2)).tmod (b : Int) = (((ii + 2) % b : Nat) : Int) := by
      rw [show (ii : Int) + 2 = ((ii + 2 : Nat) : Int) by omega, Int.tmod_eq_emod_of_nonneg (by omega)]
      exact (Int.natCast_emod _ _).symm
    have hwi : IntKind.i64.wrap ((ii : Int) + 2) = (ii : Int) + 2 := by rw [wrap_i64_id] <;> omega
    have hbne : ¬ (b : Int) = 0 := by omega
    have hm2 : (ii + 2) % b < b := Nat.mod_lt _ (by omega)
    cases d3 : decide (0 < nextV l (a + 1 + 1) 3)
    · skip
      have hJ0 : (0 : Int) ≤ ((jj : Nat) : Int) ∧ ((jj : Nat) : Int) < (b : Int) := by omega
      cases d4 : decide ((ii : Int) = ((jj : Nat) : Int))
      rotate_left
      · simp only [go_sem, d3, hwk, d4, hwk]
        refine ih2 (k, a + 1 + 1 + 1, g2) _ ⟨by simp only; omega, by simp only; omega, hg2l, hRP2⟩ (by simp only; omega) ?_
        (refine Wk.forget ?_; simp [Le, LeE, LeH, get, envIds, hpIds, KeepH, D.ids, idsL, AO.ids, setL, base]; done)
      simp only [go_sem, d3, hwk, d4, encG_len, hg2l, Int.toNat_natCast, hgi, hii0]
      refine Cc_of ((has_ok (g2.getD ii []) ((jj : Nat) : Int) (by omega))) ?_
      rintro h' r ⟨rfl, rfl⟩
      cases d5 : decide (((jj : Nat) : Int) ∈ g2.getD ii [])
      rotate_left
      · simp only [go_sem, d5, hwk]
        refine ih2 (k, a + 1 + 1 + 1, g2) _ ⟨by simp only; omega, by simp only; omega, hg2l, hRP2⟩ (by simp only; omega) ?_
        (refine Wk.forget ?_; simp [Le, LeE, LeH, get, envIds, hpIds, KeepH, D.ids, idsL, AO.ids, setL, base]; done)
      cases d6 : decide (((g2.getD ii []).length : Int) < 4)
      · simp only [go_sem, d5, encG_len, encI_len, hg2l, Int.toNat_natCast, hgi, hii0, d6, hwk]
        refine ih2 (k, a + 1 + 1 + 1, g2) _ ⟨by simp only; omega, by simp only; omega, hg2l, hRP2⟩ (by simp only; omega) ?_
        (refine Wk.forget ?_; simp [Le, LeE, LeH, get, envIds, hpIds, KeepH, D.ids, idsL, AO.ids, setL, base]; done)
      simp only [go_sem, d5, encG_len, encI_len, hg2l, Int.toNat_natCast, hgi, hii0, d6]
      refine X_any0 mixed (p := [(0, 0), (1, 0), (2, 0), (3, 0), (4, 0), (5, 0), (6, 0), (7, 0), (8, 0), (9, 0), (10, 0), (11, 0), (12, 0), (13, 2), (14, 0), (15, 3)]) (by kernel_rfl) (by simp [LeH, get]) ?_
      simp only [go_sem, encG_len, encI_len, hg2l, Int.toNat_natCast, hgi, hii0]
      refine Gh_of ((insert_ok (g2.getD ii []) ((jj : Nat) : Int) (by omega))) ?_
      rintro h' r ⟨rfl, rfl⟩
      simp only [go_sem, encG_len, hg2l, Int.toNat_natCast, hii0, hwk]
      refine ih2 (k, a + 1 + 1 + 1, g2.set ii (insV (g2.getD ii []) ((jj : Nat) : Int))) _ ⟨by simp only; omega, by simp only; omega, by simpa using hg2l, fun u hu => ?_⟩ (by simp only; omega) ?_
      · rw [getD_set]
        by_cases e : ii = u
        · subst e
          rw [if_pos ⟨rfl, by omega⟩]
          exact (hRP2 ii hu).ins hJ0.1 hJ0.2 (fun h => of_decide_eq_false d4 h.symm) (of_decide_eq_false d5) (by have := of_decide_eq_true d6; omega)
        · rw [if_neg (fun h => e h.1)]; exact hRP2 u hu
      · (refine Wk.forget ?_; simp [Le, LeE, LeH, get, envIds, hpIds, KeepH, D.ids, idsL, AO.ids, setL, base, encG_set, encG_tail]; done)
    · generalize (ii + 2) % b = J at hmod2 hm2
      have hJ0 : (0 : Int) ≤ ((J : Nat) : Int) ∧ ((J : Nat) : Int) < (b : Int) := by omega
      cases d4 : decide ((ii : Int) = ((J : Nat) : Int))
      rotate_left
      · simp only [go_sem, d3, hwi, hmod2, hbne, d4, hwk]
        refine ih2 (k, a + 1 + 1 + 1, g2) _ ⟨by simp only; omega, by simp only; omega, hg2l, hRP2⟩ (by simp only; omega) ?_
        (refine Wk.forget ?_; simp [Le, LeE, LeH, get, envIds, hpIds, KeepH, D.ids, idsL, AO.ids, setL, base]; done)
      simp only [go_sem, d3, hwi, hmod2, hbne, d4, encG_len, hg2l, Int.toNat_natCast, hgi, hii0]
      refine Cc_of ((has_ok (g2.getD ii []) ((J : Nat) : Int) (by omega))) ?_
      rintro h' r ⟨rfl, rfl⟩
      cases d5 : decide (((J : Nat) : Int) ∈ g2.getD ii [])
      rotate_left
      · simp only [go_sem, d5, hwk]
        refine ih2 (k, a + 1 + 1 + 1, g2) _ ⟨by simp only; omega, by simp only; omega, hg2l, hRP2⟩ (by simp only; omega) ?_
        (refine Wk.forget ?_; simp [Le, LeE, LeH, get, envIds, hpIds, KeepH, D.ids, idsL, AO.ids, setL, base]; done)
      cases d6 : decide (((g2.getD ii []).length : Int) < 4)
      · simp only [go_sem, d5, encG_len, encI_len, hg2l, Int.toNat_natCast, hgi, hii0, d6, hwk]
        refine ih2 (k, a + 1 + 1 + 1, g2) _ ⟨by simp only; omega, by simp only; omega, hg2l, hRP2⟩ (by simp only; omega) ?_
        (refine Wk.forget ?_; simp [Le, LeE, LeH, get, envIds, hpIds, KeepH, D.ids, idsL, AO.ids, setL, base]; done)
      simp only [go_sem, d5, encG_len, encI_len, hg2l, Int.toNat_natCast, hgi, hii0, d6]
      refine X_any0 mixed (p := [(0, 0), (1, 0), (2, 0), (3, 0), (4, 0), (5, 0), (6, 0), (7, 0), (8, 0), (9, 0), (10, 0), (11, 0), (12, 0), (13, 2), (14, 0), (15, 3)]) (by kernel_rfl) (by simp [LeH, get]) ?_
      simp only [go_sem, encG_len, encI_len, hg2l, Int.toNat_natCast, hgi, hii0]
      refine Gh_of ((insert_ok (g2.getD ii []) ((J : Nat) : Int) (by omega))) ?_
      rintro h' r ⟨rfl, rfl⟩
      simp only [go_sem, encG_len, hg2l, Int.toNat_natCast, hii0, hwk]
      refine ih2 (k, a + 1 + 1 + 1, g2.set ii (insV (g2.getD ii []) ((J : Nat) : Int))) _ ⟨by simp only; omega, by simp only; omega, by simpa using hg2l, fun u hu => ?_⟩ (by simp only; omega) ?_
      · rw [getD_set]
        by_cases e : ii = u
        · subst e
          rw [if_pos ⟨rfl, by omega⟩]
          exact (hRP2 ii hu).ins hJ0.1 hJ0.2 (fun h => of_decide_eq_false d4 h.symm) (of_decide_eq_false d5) (by have := of_decide_eq_true d6; omega)
        · rw [if_neg (fun h => e h.1)]; exact hRP2 u hu
      · (refine Wk.forget ?_; simp [Le, LeE, LeH, get, envIds, hpIds, KeepH, D.ids, idsL, AO.ids, setL, base, encG_set, encG_tail]; done)
end Go.Am
end
section
namespace Go.Am
open Go Go.Proofs
set_option maxRecDepth 100000
set_option linter.unusedVariables false
set_option linter.unusedSimpArgs false
def digT (i : Nat) : List UInt8 := if i < 10 then [UInt8.ofNat (48 + i)] else [UInt8.ofNat (48 + i / 10), UInt8.ofNat (48 + i % 10)]
theorem digN_T (i : Nat) (h : i < 100) : digN i = digT i := by
  unfold digT
  by_cases h1 : i < 10
  · rw [if_pos h1, digN_small i h1]
  · rw [if_neg h1, digN_big i h1, digN_small (i / 10) (by omega)]; rfl
theorem digT_inj : ∀ i, i < 24 → ∀ j, j < 24 → digT i = digT j → i = j := by decide
theorem nameB_b : ∀ i, i < 24 → nameB (98 :: digT i) = true := by decide
theorem nameB_s : ∀ i, i < 24 → nameB (115 :: digT i) = true := by decide
structure NetP (n : Nt) : Prop where
  nb : 1 ≤ n.blocks.length ∧ n.blocks.length ≤ 10
  bl : ∀ i, i < n.blocks.length → (n.blocks.getD i blk0).name = 98 :: digN i ∧ xyP (n.blocks.getD i blk0)
  nl : n.next.length = n.blocks.length
  nx : ∀ i, i < n.blocks.length → RP n.blocks.length i (n.next.getD i [])
  ns : 3 ≤ n.spurs.length ∧ n.spurs.length ≤ 5
  sp : ∀ i, i < n.spurs.length → (n.spurs.getD i spr0).name = 115 :: digN i ∧ (i = 0 → (n.spurs.getD i spr0).depot = true) ∧ (i = 1 ∨ i = 2 → (n.spurs.getD i spr0).depot = false)
  ss : spursP n.blocks.length n.spurs
  rl : n.robots.length ≤ 3
  rb : robotsP n.spurs n.robots
  cf : cfgP n.cq n.ca n.cd n.cp
theorem namesN_get {n : Nt} (i : Nat) (hi : i < (namesN n).length) : (namesN n).getD i [] = if i < n.blocks.length then (n.blocks.getD i blk0).name else (n.spurs.getD (i - n.blocks.length) spr0).name := by
  have hl : (namesN n).length = n.blocks.length + n.spurs.length := by simp [namesN]
  have hi2 : i < n.blocks.length + n.spurs.length := by omega
  rw [getD_eq hi]
  unfold namesN at hi ⊢
  by_cases h : i < n.blocks.length
  · rw [if_pos h, List.getElem_append_left (by simpa using h), List.getElem_map, getD_eq h]
  · rw [if_neg h, List.getElem_append_right (by simpa using h), List.getElem_map, getD_eq (show i - n.blocks.length < n.spurs.length by omega)]
    simp
theorem NetP.valid {n : Nt} (h : NetP n) : validN n := by
  obtain ⟨nb, bl, nl, nx, ns, sp, ss, rl, rb, cf⟩ := h
  refine ⟨⟨nb.1, by omega, nl, fun i hi => ⟨(bl i hi).2, (nx i hi).2.2.1, (nx i hi).row⟩⟩, by omega, fun i hi => ?_, by omega, cf, ss, rb, ?_⟩
  · have hl : (namesN n).length = n.blocks.length + n.spurs.length := by simp [namesN]
    have key : ∀ j, j < (namesN n).length → ∃ c d, (namesN n).getD j [] = c :: digT d ∧ d < 24 ∧ ((j < n.blocks.length ∧ c = 98 ∧ d = j) ∨ (n.blocks.length ≤ j ∧ c = 115 ∧ d = j - n.blocks.length)) := by
      intro j hj
      rw [namesN_get j hj]
      by_cases h1 : j < n.blocks.length
      · rw [if_pos h1, (bl j h1).1, digN_T j (by omega)]
        exact ⟨98, j, rfl, by omega, .inl ⟨h1, rfl, rfl⟩⟩
      · rw [if_neg h1, (sp (j - n.blocks.length) (by omega)).1, digN_T _ (by omega)]
        exact ⟨115, j - n.blocks.length, rfl, by omega, .inr ⟨by omega, rfl, rfl⟩⟩
    obtain ⟨c, d, h1, h2, h3⟩ := key i hi
    refine ⟨?_, fun k hk => ?_⟩
    · rw [h1]
      rcases h3 with ⟨_, rfl, _⟩ | ⟨_, rfl, _⟩
      · exact nameB_b d h2
      · exact nameB_s d h2
    · obtain ⟨c2, d2, h4, h5, h6⟩ := key k (by omega)
      rw [h1, h4]
      intro he
      rw [List.cons.injEq] at he
      have hd := digT_inj d h2 d2 h5 he.2
      rcases h3 with ⟨_, rfl, rfl⟩ | ⟨_, rfl, rfl⟩ <;> rcases h6 with ⟨_, rfl, rfl⟩ | ⟨_, rfl, rfl⟩
      · omega
      · exact absurd he.1 (by decide)
      · exact absurd he.1 (by decide)
      · omega
  · have h0 := (sp 0 (by omega)).2.1 rfl
    rw [List.length_filter_pos_iff]
    exact ⟨_, getD_mem n.spurs 0 spr0 (by omega), h0⟩
end Go.Am
end
section
namespace Go.Am
open Go Go.Proofs
set_option maxRecDepth 100000
set_option linter.unusedVariables false
set_option linter.unusedSimpArgs false
theorem getD_append_last {α : Type} (l : List α) (x y : α) (i : Nat) : (l ++ [x]).getD i y = if i < l.length then l.getD i y else if i = l.length then x else y := by
  simp only [List.getD]
  by_cases h : i < l.length
  · rw [if_pos h, List.getElem?_append_left h]
  · rw [if_neg h, List.getElem?_append_right (by omega)]
    by_cases h2 : i = l.length
    · rw [if_pos h2, h2]; simp
    · rw [if_neg h2]
      have : 1 ≤ i - l.length := by omega
      obtain ⟨m, hm⟩ : ∃ m, i - l.length = m + 1 := ⟨i - l.length - 1, by omega⟩
      rw [hm]; simp
def blkP (bl : List Blk) : Prop := ∀ i, i < bl.length → (bl.getD i blk0).name = 98 :: digN i ∧ xyP (bl.getD i blk0)
theorem blkP_snoc {bl : List Blk} (h : blkP bl) (x y : Int) (hx : -4 ≤ x ∧ x ≤ 4) (hy : -4 ≤ y ∧ y ≤ 4) : blkP (bl ++ [⟨98 :: digN bl.length, x, y⟩]) := by
  intro i hi
  rw [getD_append_last]
  by_cases h1 : i < bl.length
  · rw [if_pos h1]; exact h i h1
  · have h2 : i = bl.length := by simp at hi; omega
    rw [if_neg h1, if_pos h2, h2]
    exact ⟨rfl, by unfold xyP; simp only; omega⟩
def sprP (nb : Nat) (l : List Spr) : Prop := ∀ i, i < l.length → (l.getD i spr0).name = 115 :: digN i ∧ (i = 0 → (l.getD i spr0).depot = true) ∧ (i = 1 ∨ i = 2 → (l.getD i spr0).depot = false) ∧ spurP nb (nb + sumS (l.take i)) (l.getD i spr0)
theorem robotsP_snoc {sp : List Spr} {rb : List Int} {x : Int} (h : robotsP sp rb) (h1 : sp.any (inD x) = true) (h2 : x ∉ rb) : robotsP sp (rb ++ [x]) := by
  intro i hi
  rw [getD_append_last]
  by_cases h3 : i < rb.length
  · rw [if_pos h3, List.take_append_of_le_length (by omega)]; exact h i h3
  · have h4 : i = rb.length := by simp at hi; omega
    subst h4
    rw [if_neg h3, if_pos rfl, List.take_left' rfl]
    exact ⟨h1, h2⟩
theorem sprP.spurs {nb : Nat} {l : List Spr} (h : sprP nb l) : spursP nb l := fun i hi => (h i hi).2.2.2
theorem sprP.rng {nb : Nat} {l : List Spr} (h : sprP nb l) : 0 ≤ sumS l ∧ sumS l ≤ 4 * l.length := sumS_all h.spurs
theorem sprP.snoc {nb : Nat} {l : List Spr} (h : sprP nb l) (dp : Bool) (x y z : Int) (hx : 0 ≤ x ∧ x < (nb : Int)) (hy : 0 ≤ y ∧ y < (nb : Int)) (hz : 1 ≤ z ∧ z ≤ 4) (h0 : l.length = 0 → dp = true) (h1 : l.length = 1 ∨ l.length = 2 → dp = false) :
    sprP nb (l ++ [⟨115 :: digN l.length, dp, x, y, z, (nb : Int) + sumS l⟩]) := by
  intro i hi
  rw [getD_append_last]
  by_cases h2 : i < l.length
  · rw [if_pos h2, List.take_append_of_le_length (by omega)]; exact h i h2
  · have h3 : i = l.length := by simp at hi; omega
    subst h3
    rw [if_neg h2, if_pos rfl, List.take_left' rfl]
    exact ⟨rfl, h0, h1, hx.1, hx.2, hy.1, hy.2, hz.1, hz.2, rfl⟩
def Nt.os (n : Nt) : List D := [.ref 0 0 n.blocks.length n.blocks.length, .ref 1 0 n.next.length n.next.length, .ref 2 0 n.spurs.length n.spurs.length, .ref 3 0 n.robots.length n.robots.length, .p (.int .i64 n.cq), .p (.int .i64 n.ca), .p (.int .i64 n.cd), .p (.int .i64 n.cp)]
set_option maxHeartbeats 1600000 in
theorem net_ownR (R : Nt → Int → Prop) (hR : ∀ n : Nt, validN n → ACalls Try.prog 33 [.agg n.cs] [] fun h r => h = [] ∧ ∃ (o : List Int) (sl cap : Int), r = .tup [.agg [.p (.int .i64 (o.length : Nat)), .p (.sl (encI o)), .p (.int .i64 sl), .p (.int .i64 cap)], .p (.int .i64 0)] ∧ cap ≤ sl ∧ sl = slotsV (List.replicate (cellsV n).toNat false) n.spurs ∧ R n cap)
    (l : List Int) (at_ most : Nat) (hat : at_ < 100000) (hm1 : 1 ≤ most) (hm2 : most ≤ 10) :
    ACalls Try.prog 16 [.ptr 1000000 0, .p (.int .i64 (most : Nat))] [(1000000, .box (tapeC l at_))]
      fun h r => ∃ at2 n, at2 ≤ at_ + 200 ∧ (NetP n ∧ ∃ cap, R { n with robots := [] } cap ∧ (n.robots.length = 0 ∨ (n.robots.length : Int) ≤ cap)) ∧ h = [(1000000, .box (tapeC l at2)), (0, .arr 56 3 (encK n.blocks)), (1, .arr 23 1 (encG n.next)), (2, .arr 52 6 (encP n.spurs)), (3, .arr 3 1 (encI n.robots))] ∧ r = .agg n.os := by
  refine ACalls_X Try.func16 rfl enters16 (by simp [Try.f16]) ?_
  simp only [go_sem, tapeC]
  refine Cc_of ((next_ok l at_ most (by omega) (in64_small _ (by omega) (by omega)))) ?_
  rintro h' r ⟨rfl, rfl⟩
  obtain ⟨k0, hk0, hk1⟩ := nextV_rng l at_ most (by omega)
  have hwk0 : IntKind.i64.wrap (1 + (k0 : Int)) = ((k0 + 1 : Nat) : Int) := by rw [wrap_i64_id] <;> omega
  simp only [go_sem, tapeC, hk0, hwk0]
  refine X_loop_inv (fun q : Nat × Nat × List Blk => ⟨[(0, .ptr 1000000 0), (4, .ptr 4 0), (5, .ptr 5 0), (6, .p (.int .i64 (q.1 : Nat)))],
      [(1000000, .box [.p (.sl (encI l)), .p (.int .i64 (q.2.1 : Nat))]), (4, .box [.cl [], .cl [], .cl [], .cl [], .p (.int .i64 0), .p (.int .i64 0), .p (.int .i64 0), .p (.int .i64 0)]),
       (5, .box [.ref 43 0 q.2.2.length q.2.2.length, .ref 48 0 q.2.2.length q.2.2.length, .cl [], .cl [], .p (.int .i64 0), .p (.int .i64 0), .p (.int .i64 0), .p (.int .i64 0)]), (43, .arr 56 3 (encK q.2.2)), (48, .arr 23 1 (encG (List.replicate q.2.2.length [])))], 191⟩)
    (fun q => q.1 + q.2.2.length = k0 + 1 ∧ q.2.1 = at_ + 1 + 2 * q.2.2.length ∧ blkP q.2.2) (fun q => q.1) (k0 + 1, at_ + 1, []) ⟨by simp, by simp, fun i hi => by simp at hi⟩
    ((Wk.nilBox (id := 5) (j := 0) (q := 43) (sz := 3) 56 rfl rfl rfl (by decide)).trans ((Wk.nilBox (id := 5) (j := 1) (q := 48) (sz := 1) 23 rfl rfl rfl (by decide)).trans (Wk.forget (by simp [Le, LeE, LeH, get, envIds, hpIds, KeepH, D.ids, idsL, AO.ids, setL, base, encK, encG])))) ?_
  rintro ⟨k, a, bl⟩ m ⟨hk, ha, hbl⟩ ih
  simp only at hk ha hbl
  cases c1 : decide (0 < (k : Int))
  rotate_left
  · obtain ⟨k, rfl⟩ : ∃ j, k = j + 1 := ⟨k - 1, by have := of_decide_eq_true c1; omega⟩
    have hwk := wrap_pred k (by omega)
    obtain ⟨x, hx, hx9⟩ := nextV_rng l a 9 (by omega)
    obtain ⟨y, hy, hy9⟩ := nextV_rng l (a + 1) 9 (by omega)
    have hwx : IntKind.i64.wrap ((x : Int) - 4) = (x : Int) - 4 := by rw [wrap_i64_id] <;> omega
    have hwy : IntKind.i64.wrap ((y : Int) - 4) = (y : Int) - 4 := by rw [wrap_i64_id] <;> omega
    have hdl := digN_len 15 bl.length (by omega)
    simp only [go_sem, c1, encK_len]
    refine X_any [(5, .box [.ref 43 0 bl.length bl.length, .ref 48 0 bl.length bl.length, .cl [], .cl [], .p (.int .i64 0), .p (.int .i64 0), .p (.int .i64 0), .p (.int .i64 0)])] mixed (p := [(0, 0), (1, 0), (2, 0), (5, 0), (8, 0), (3, 2), (4, 0), (6, 2), (7, 0), (9, 2), (10, 0), (11, 0), (12, 1), (13, 2), (14, 0), (15, 3)]) (by kernel_rfl) (by simp [LeH, get]) ?_
    simp only [go_sem]
    refine Gh_of ((digits_nn bl.length (by omega))) ?_
    rintro h' r ⟨rfl, rfl⟩
    simp only [go_sem]
    refine ⟨by unfold maxLen; omega, ?_⟩
    refine Gh_of ((next_ok l a 9 (by omega) (in64_small _ (by omega) (by omega)))) ?_
    rintro h' r ⟨rfl, rfl⟩
    simp only [go_sem, tapeC, hx, hwx]
    refine Gh_of ((next_ok l (a + 1) 9 (by omega) (in64_small _ (by omega) (by omega)))) ?_
    rintro h' r ⟨rfl, rfl⟩
    simp only [go_sem, tapeC, hy, hwy, encK_len]
    refine ⟨⟨wid1 _ _ rfl, by omega⟩, ?_⟩
    try simp only [go_sem]
    refine Af_bsarr rfl ti30 ti23 rfl rfl ?_
    simp only [go_sem, encG_len, List.length_replicate]
    refine ⟨⟨wid1 _ _ rfl, by omega⟩, ?_⟩
    simp only [go_sem, hwk]
    refine ih (k, a + 1 + 1, bl ++ [⟨98 :: digN bl.length, (x : Int) - 4, (y : Int) - 4⟩]) _ ⟨by simp; omega, by simp; omega, blkP_snoc hbl _ _ (by omega) (by omega)⟩ (by simp only; omega) ?_
    (refine Wk.forget ?_; simp [Le, LeE, LeH, get, envIds, hpIds, KeepH, D.ids, idsL, AO.ids, setL, base, encK_snoc, encK_len, encG, encI, List.replicate_succ']; done)
  have hkz : k = 0 := by have := of_decide_eq_false c1; omega
  subst hkz
  have hnb : bl.length = k0 + 1 := by omega
  clear ih hwk0
  simp only [go_sem, c1, encK_len]
  refine Cc_of (ring_ok l a bl.length bl (List.replicate bl.length []) (by omega) (by omega) (by omega) rfl (by simp) (fun i hi => by simp [List.getD, hi])) ?_
  rintro h' r ⟨a2, nx, ha2, hnl, hnx, rfl, rfl⟩
  have hnb2 : 1 ≤ bl.length ∧ bl.length ≤ 10 := by omega
  have ha3 : a2 ≤ at_ + 100 := by omega
  clear hk ha hnb hk0 hk1 ha2
  simp only [go_sem, tapeC, encK_len]
  refine Cc_of ((next_ok l a2 3 (by omega) (in64_small _ (by omega) (by omega)))) ?_
  rintro h' r ⟨rfl, rfl⟩
  obtain ⟨k3, hk3, hk4⟩ := nextV_rng l a2 3 (by omega)
  have hwk3 : IntKind.i64.wrap (3 + (k3 : Int)) = ((k3 + 3 : Nat) : Int) := by rw [wrap_i64_id] <;> omega
  simp only [go_sem, tapeC, hk3, hwk3]
  refine X_loop_inv (fun q : Nat × Nat × List Spr => ⟨[(0, .ptr 1000000 0), (4, .ptr 4 0), (5, .ptr 5 0), (8, .p (.int .i64 ((bl.length : Int) + sumS q.2.2))), (9, .p (.int .i64 (q.1 : Nat)))],
      [(1000000, .box [.p (.sl (encI l)), .p (.int .i64 (q.2.1 : Nat))]), (4, .box [.cl [], .cl [], .cl [], .cl [], .p (.int .i64 0), .p (.int .i64 0), .p (.int .i64 0), .p (.int .i64 0)]),
       (5, .box [.ref 43 0 bl.length bl.length, .ref 48 0 bl.length bl.length, .ref 102 0 q.2.2.length q.2.2.length, .cl [], .p (.int .i64 0), .p (.int .i64 0), .p (.int .i64 0), .p (.int .i64 0)]), (43, .arr 56 3 (encK bl)), (48, .arr 23 1 (encG nx)), (102, .arr 52 6 (encP q.2.2))], 191⟩)
    (fun q => q.1 + q.2.2.length = k3 + 3 ∧ q.2.1 ≤ a2 + 1 + 4 * q.2.2.length ∧ sprP bl.length q.2.2) (fun q => q.1) (k3 + 3, a2 + 1, []) ⟨by simp, by simp, fun i hi => by simp at hi⟩
    ((Wk.nilBox (id := 5) (j := 2) (q := 102) (sz := 6) 52 rfl rfl rfl (by decide)).trans (Wk.forget (by simp [Le, LeE, LeH, get, envIds, hpIds, KeepH, D.ids, idsL, AO.ids, setL, base, encP, sumS]))) ?_
  rintro ⟨k, a, sp⟩ m2 ⟨hk, ha, hsp⟩ ih
  simp only at hk ha hsp
  have hsr := hsp.rng
  cases c2 : decide (0 < (k : Int))
  rotate_left
  · obtain ⟨k, rfl⟩ : ∃ j, k = j + 1 := ⟨k - 1, by have := of_decide_eq_true c2; omega⟩
    have hwk := wrap_pred k (by omega)
    have hdl := digN_len 15 sp.length (by omega)
    have hbz : (0 : Int) < (bl.length : Int) := by omega
    by_cases hi0 : sp.length = 0
    · have hi1 : ((sp.length : Nat) : Int) = 0 := by omega
      have hd : decide (((sp.length : Nat) : Int) = 0) = true := decide_eq_true hi1
      simp only [go_sem, c2, encP_len]
      refine X_any [(5, .box [.ref 43 0 bl.length bl.length, .ref 48 0 bl.length bl.length, .ref 102 0 sp.length sp.length, .cl [], .p (.int .i64 0), .p (.int .i64 0), .p (.int .i64 0), .p (.int .i64 0)]), (43, .arr 56 3 (encK bl))] mixed (p := [(0, 0), (3, 0), (4, 0), (14, 0), (15, 0), (16, 0), (17, 0), (19, 0), (20, 0), (21, 0), (22, 0), (24, 0), (27, 0), (29, 1), (1, 2), (2, 0), (5, 0), (6, 0), (7, 0), (8, 0), (9, 0), (10, 2), (11, 0), (12, 0), (13, 0), (18, 2), (23, 2), (25, 2), (26, 0), (28, 0), (30, 3)]) (by kernel_rfl) (by simp [LeH, get]) ?_
      simp only [go_sem, hd, encK_len]
      refine Gh_of ((digits_nn sp.length (by omega))) ?_
      rintro h' r ⟨rfl, rfl⟩
      simp only [go_sem, hd, encK_len]
      refine ⟨by unfold maxLen; omega, ?_⟩
      obtain ⟨x, hx, hxb⟩ := nextV_rng l a bl.length hbz
      obtain ⟨y, hy, hyb⟩ := nextV_rng l (a + 1) bl.length hbz
      obtain ⟨z, hz, hzb⟩ := nextV_rng l (a + 1 + 1) 3 (by omega)
      have hwz : IntKind.i64.wrap (1 + (z : Int)) = 1 + (z : Int) := by rw [wrap_i64_id] <;> omega
      have hwb : IntKind.i64.wrap ((bl.length : Int) + sumS sp + (1 + (z : Int))) = (bl.length : Int) + sumS sp + (1 + (z : Int)) := by rw [wrap_i64_id] <;> omega
      refine Gh_of ((next_ok l a bl.length (by omega) (in64_small _ (by omega) (by omega)))) ?_
      rintro h' r ⟨rfl, rfl⟩
      simp only [go_sem, tapeC, hx]
      refine Gh_of ((next_ok l (a + 1) bl.length (by omega) (in64_small _ (by omega) (by omega)))) ?_
      rintro h' r ⟨rfl, rfl⟩
      simp only [go_sem, tapeC, hy]
      refine Gh_of ((next_ok l (a + 1 + 1) 3 (by omega) (in64_small _ (by omega) (by omega)))) ?_
      rintro h' r ⟨rfl, rfl⟩
      simp only [go_sem, tapeC, hz, hwz, hwb, encP_len]
      refine ⟨⟨wid1 _ _ rfl, by omega⟩, ?_⟩
      simp only [go_sem, hwk]
      refine ih (k, a + 1 + 1 + 1, sp ++ [⟨115 :: digN sp.length, true, (x : Int), (y : Int), 1 + (z : Int), (bl.length : Int) + sumS sp⟩]) _ ⟨by simp; omega, by simp; omega, hsp.snoc _ _ _ _ (by omega) (by omega) (by omega) (fun _ => rfl) (fun h => by omega)⟩ (by simp only; omega) ?_
      (refine Wk.forget ?_; simp [Le, LeE, LeH, get, envIds, hpIds, KeepH, D.ids, idsL, AO.ids, setL, base, encP_snoc, encP_len, sumS_snoc, Int.add_assoc]; done)
    by_cases hi2 : sp.length ≤ 2
    · have hd : decide (((sp.length : Nat) : Int) = 0) = false := decide_eq_false (by omega)
      have hd2 : decide (2 < ((sp.length : Nat) : Int)) = false := decide_eq_false (by omega)
      simp only [go_sem, c2, encP_len]
      refine X_any [(5, .box [.ref 43 0 bl.length bl.length, .ref 48 0 bl.length bl.length, .ref 102 0 sp.length sp.length, .cl [], .p (.int .i64 0), .p (.int .i64 0), .p (.int .i64 0), .p (.int .i64 0)]), (43, .arr 56 3 (encK bl))] mixed (p := [(0, 0), (3, 0), (4, 0), (14, 0), (15, 0), (16, 0), (17, 0), (19, 0), (20, 0), (21, 0), (22, 0), (24, 0), (27, 0), (29, 1), (1, 2), (2, 0), (5, 0), (6, 0), (7, 0), (8, 0), (9, 0), (10, 2), (11, 0), (12, 0), (13, 0), (18, 2), (23, 2), (25, 2), (26, 0), (28, 0), (30, 3)]) (by kernel_rfl) (by simp [LeH, get]) ?_
      simp only [go_sem, hd, hd2, encK_len]
      refine Gh_of ((digits_nn sp.length (by omega))) ?_
      rintro h' r ⟨rfl, rfl⟩
      simp only [go_sem, hd, hd2, encK_len]
      refine ⟨by unfold maxLen; omega, ?_⟩
      obtain ⟨x, hx, hxb⟩ := nextV_rng l a bl.length hbz
      obtain ⟨y, hy, hyb⟩ := nextV_rng l (a + 1) bl.length hbz
      obtain ⟨z, hz, hzb⟩ := nextV_rng l (a + 1 + 1) 3 (by omega)
      have hwz : IntKind.i64.wrap (1 + (z : Int)) = 1 + (z : Int) := by rw [wrap_i64_id] <;> omega
      have hwb : IntKind.i64.wrap ((bl.length : Int) + sumS sp + (1 + (z : Int))) = (bl.length : Int) + sumS sp + (1 + (z : Int)) := by rw [wrap_i64_id] <;> omega
      refine Gh_of ((next_ok l a bl.length (by omega) (in64_small _ (by omega) (by omega)))) ?_
      rintro h' r ⟨rfl, rfl⟩
      simp only [go_sem, tapeC, hx]
      refine Gh_of ((next_ok l (a + 1) bl.length (by omega) (in64_small _ (by omega) (by omega)))) ?_
      rintro h' r ⟨rfl, rfl⟩
      simp only [go_sem, tapeC, hy]
      refine Gh_of ((next_ok l (a + 1 + 1) 3 (by omega) (in64_small _ (by omega) (by omega)))) ?_
      rintro h' r ⟨rfl, rfl⟩
      simp only [go_sem, tapeC, hz, hwz, hwb, encP_len]
      refine ⟨⟨wid1 _ _ rfl, by omega⟩, ?_⟩
      simp only [go_sem, hwk]
      refine ih (k, a + 1 + 1 + 1, sp ++ [⟨115 :: digN sp.length, false, (x : Int), (y : Int), 1 + (z : Int), (bl.length : Int) + sumS sp⟩]) _ ⟨by simp; omega, by simp; omega, hsp.snoc _ _ _ _ (by omega) (by omega) (by omega) (fun h => by omega) (fun _ => rfl)⟩ (by simp only; omega) ?_
      (refine Wk.forget ?_; simp [Le, LeE, LeH, get, envIds, hpIds, KeepH, D.ids, idsL, AO.ids, setL, base, encP_snoc, encP_len, sumS_snoc, Int.add_assoc]; done)
    · have hd : decide (((sp.length : Nat) : Int) = 0) = false := decide_eq_false (by omega)
      have hd2 : decide (2 < ((sp.length : Nat) : Int)) = true := decide_eq_true (by omega)
      simp only [go_sem, c2, encP_len]
      refine X_any [(5, .box [.ref 43 0 bl.length bl.length, .ref 48 0 bl.length bl.length, .ref 102 0 sp.length sp.length, .cl [], .p (.int .i64 0), .p (.int .i64 0), .p (.int .i64 0), .p (.int .i64 0)]), (43, .arr 56 3 (encK bl))] mixed (p := [(0, 0), (3, 0), (4, 0), (14, 0), (15, 0), (16, 0), (17, 0), (19, 0), (20, 0), (21, 0), (22, 0), (24, 0), (27, 0), (29, 1), (1, 2), (2, 0), (5, 0), (6, 0), (7, 0), (8, 0), (9, 0), (10, 2), (11, 0), (12, 0), (13, 0), (18, 2), (23, 2), (25, 2), (26, 0), (28, 0), (30, 3)]) (by kernel_rfl) (by simp [LeH, get]) ?_
      simp only [go_sem, hd, hd2, encK_len]
      refine Gh_of ((digits_nn sp.length (by omega))) ?_
      rintro h' r ⟨rfl, rfl⟩
      simp only [go_sem, hd, hd2, encK_len]
      refine ⟨by unfold maxLen; omega, ?_⟩
      refine Gh_of ((next_ok l a 2 (by omega) (in64_small _ (by omega) (by omega)))) ?_
      rintro h' r ⟨rfl, rfl⟩
      simp only [go_sem, tapeC, hd, hd2]
      obtain ⟨x, hx, hxb⟩ := nextV_rng l (a + 1) bl.length hbz
      obtain ⟨y, hy, hyb⟩ := nextV_rng l ((a + 1) + 1) bl.length hbz
      obtain ⟨z, hz, hzb⟩ := nextV_rng l ((a + 1) + 1 + 1) 3 (by omega)
      have hwz : IntKind.i64.wrap (1 + (z : Int)) = 1 + (z : Int) := by rw [wrap_i64_id] <;> omega
      have hwb : IntKind.i64.wrap ((bl.length : Int) + sumS sp + (1 + (z : Int))) = (bl.length : Int) + sumS sp + (1 + (z : Int)) := by rw [wrap_i64_id] <;> omega
      refine Gh_of ((next_ok l (a + 1) bl.length (by omega) (in64_small _ (by omega) (by omega)))) ?_
      rintro h' r ⟨rfl, rfl⟩
      simp only [go_sem, tapeC, hx]
      refine Gh_of ((next_ok l ((a + 1) + 1) bl.length (by omega) (in64_small _ (by omega) (by omega)))) ?_
      rintro h' r ⟨rfl, rfl⟩
      simp only [go_sem, tapeC, hy]
      refine Gh_of ((next_ok l ((a + 1) + 1 + 1) 3 (by omega) (in64_small _ (by omega) (by omega)))) ?_
      rintro h' r ⟨rfl, rfl⟩
      simp only [go_sem, tapeC, hz, hwz, hwb, encP_len]
      refine ⟨⟨wid1 _ _ rfl, by omega⟩, ?_⟩
      simp only [go_sem, hwk]
      refine ih (k, (a + 1) + 1 + 1 + 1, sp ++ [⟨115 :: digN sp.length, (decide (nextV l a 2 = 0)), (x : Int), (y : Int), 1 + (z : Int), (bl.length : Int) + sumS sp⟩]) _ ⟨by simp; omega, by simp; omega, hsp.snoc _ _ _ _ (by omega) (by omega) (by omega) (fun h => by omega) (fun h => by omega)⟩ (by simp only; omega) ?_
      (refine Wk.forget ?_; simp [Le, LeE, LeH, get, envIds, hpIds, KeepH, D.ids, idsL, AO.ids, setL, base, encP_snoc, encP_len, sumS_snoc, Int.add_assoc]; done)
  have hkz2 : k = 0 := by have := of_decide_eq_false c2; omega
  subst hkz2
  have hns : 3 ≤ sp.length ∧ sp.length ≤ 5 := by omega
  have ha4 : a ≤ at_ + 130 := by omega
  clear ih hk ha hwk3 hk3
  obtain ⟨q1, hq1, hq1b⟩ := nextV_rng l a 4 (by omega)
  obtain ⟨q2, hq2, hq2b⟩ := nextV_rng l (a + 1) 3 (by omega)
  obtain ⟨q3, hq3, hq3b⟩ := nextV_rng l (a + 1 + 1) 3 (by omega)
  obtain ⟨q4, hq4, hq4b⟩ := nextV_rng l (a + 1 + 1 + 1) 8 (by omega)
  obtain ⟨q5, hq5, hq5b⟩ := nextV_rng l (a + 1 + 1 + 1 + 1) 3 (by omega)
  have hw1 : IntKind.i64.wrap (1 + (q1 : Int)) = 1 + (q1 : Int) := by rw [wrap_i64_id] <;> omega
  have hw4 : IntKind.i64.wrap (1 + (q4 : Int)) = 1 + (q4 : Int) := by rw [wrap_i64_id] <;> omega
  have hw5 : IntKind.i64.wrap (1 + (q5 : Int)) = ((q5 + 1 : Nat) : Int) := by rw [wrap_i64_id] <;> omega
  have hP : ∀ rb : List Int, rb.length ≤ 3 → robotsP sp rb → NetP ⟨bl, nx, sp, rb, 1 + q1, q2, q3, 1 + q4⟩ := fun rb hr1 hr2 =>
    ⟨hnb2, hbl, hnl, hnx, hns, fun i hi => ⟨(hsp i hi).1, (hsp i hi).2.1, (hsp i hi).2.2.1⟩, hsp.spurs, hr1, hr2, by unfold cfgP; simp only; omega⟩
  have hF : ACalls Try.prog 33 [.agg [.p (.sl (encK bl)), .p (.sl (encG nx)), .p (.sl (encP sp)), .p (.sl []), .p (.int .i64 (1 + q1)), .p (.int .i64 q2), .p (.int .i64 q3), .p (.int .i64 (1 + q4))]] [] _ :=
    hR ⟨bl, nx, sp, [], 1 + q1, q2, q3, 1 + q4⟩ (hP [] (by simp) (fun i hi => by simp at hi)).valid
  have e1 := encK_take bl bl.length (Nat.le_refl _)
  have e2 := encG_take nx bl.length (by omega)
  have e3 := encP_take sp sp.length (Nat.le_refl _)
  simp only [go_sem, c2]
  refine Cc_of ((next_ok l a 4 (by omega) (in64_small _ (by omega) (by omega)))) ?_
  rintro h' r ⟨rfl, rfl⟩
  simp only [go_sem, tapeC, hq1, hw1]
  refine Cc_of ((next_ok l (a + 1) 3 (by omega) (in64_small _ (by omega) (by omega)))) ?_
  rintro h' r ⟨rfl, rfl⟩
  simp only [go_sem, tapeC, hq2]
  refine Cc_of ((next_ok l (a + 1 + 1) 3 (by omega) (in64_small _ (by omega) (by omega)))) ?_
  rintro h' r ⟨rfl, rfl⟩
  simp only [go_sem, tapeC, hq3]
  refine Cc_of ((next_ok l (a + 1 + 1 + 1) 8 (by omega) (in64_small _ (by omega) (by omega)))) ?_
  rintro h' r ⟨rfl, rfl⟩
  simp only [go_sem, tapeC, hq4, hw4, encK_len, encG_len, hnl, encP_len, e1, e2, e3]
  refine Cc_borS rfl rfl hF (by simp [BorL, Bor, ev, get, encK_len, encG_len, hnl, encP_len, e1, e2, e3]) ?_
  rintro h' r ⟨rfl, o, slv, cap, rfl, hcap, hslv, hRc⟩
  refine ⟨rfl, ?_⟩
  simp only [go_sem]
  refine Cc_of ((next_ok l (a + 1 + 1 + 1 + 1) 3 (by omega) (in64_small _ (by omega) (by omega)))) ?_
  rintro h' r ⟨rfl, rfl⟩
  simp only [go_sem, tapeC, hq5, hw5]
  refine X_loop_inv (fun q : Nat × Nat × List Int => ⟨[(0, .ptr 1000000 0), (4, .ptr 4 0), (5, .ptr 5 0), (12, .ptr 12 0), (14, .p (.int .i64 (q.1 : Nat)))],
      [(1000000, .box [.p (.sl (encI l)), .p (.int .i64 (q.2.1 : Nat))]), (4, .box [.cl [], .cl [], .cl [], .cl [], .p (.int .i64 0), .p (.int .i64 0), .p (.int .i64 0), .p (.int .i64 0)]),
       (5, .box [.ref 43 0 bl.length bl.length, .ref 48 0 bl.length bl.length, .ref 102 0 sp.length sp.length, .ref 188 0 q.2.2.length q.2.2.length, .p (.int .i64 (1 + q1)), .p (.int .i64 q2), .p (.int .i64 q3), .p (.int .i64 (1 + q4))]),
       (12, .box [.p (.int .i64 (o.length : Nat)), .unk, .p (.int .i64 slv), .p (.int .i64 cap)]), (43, .arr 56 3 (encK bl)), (48, .arr 23 1 (encG nx)), (102, .arr 52 6 (encP sp)), (188, .arr 3 1 (encI q.2.2))], 191⟩)
    (fun q => q.1 + q.2.2.length ≤ q5 + 1 ∧ q.2.1 + q.1 ≤ a + 10 ∧ robotsP sp q.2.2 ∧ (q.2.2.length = 0 ∨ (q.2.2.length : Int) ≤ cap)) (fun q => q.1) (q5 + 1, a + 1 + 1 + 1 + 1 + 1, []) ⟨by simp, by simp only; omega, fun i hi => by simp at hi, .inl rfl⟩
    ((Wk.nilBox (id := 5) (j := 3) (q := 188) (sz := 1) 3 rfl rfl rfl (by decide)).trans (Wk.forget (by simp [Le, LeE, LeH, get, envIds, hpIds, KeepH, D.ids, idsL, AO.ids, setL, base, encI]))) ?_
  rintro ⟨k, b, rb⟩ m3 ⟨hk, hb, hrb, hrc⟩ ih
  simp only at hk hb hrb hrc
  have e4 := encI_take rb rb.length (Nat.le_refl _)
  cases c3 : decide (0 < (k : Int))
  · simp only [go_sem, c3]
    refine end_own ?_
    simp only [go_sem, encK_len, encG_len, hnl, encP_len, encI_len]
    refine ⟨b, ⟨bl, nx, sp, rb, 1 + q1, q2, q3, 1 + q4⟩, by omega, ⟨hP rb (by omega) hrb, cap, hRc, hrc⟩, ?_⟩
    simp [Nt.os, tapeC, hnl]
  cases c4 : decide ((rb.length : Int) < cap)
  · simp only [go_sem, c3, c4, encI_len]
    refine end_own ?_
    simp only [go_sem, encK_len, encG_len, hnl, encP_len, encI_len]
    refine ⟨b, ⟨bl, nx, sp, rb, 1 + q1, q2, q3, 1 + q4⟩, by omega, ⟨hP rb (by omega) hrb, cap, hRc, hrc⟩, ?_⟩
    simp [Nt.os, tapeC, hnl]
  simp only [go_sem, c3, c4, encI_len]
  have hrl : rb.length ≤ 3 := by omega
  have hss := hsp.spurs
  refine X_loop_inv (fun q : Nat × List Int => ⟨[(0, .ptr 1000000 0), (4, .ptr 4 0), (5, .ptr 5 0), (12, .ptr 12 0), (14, .p (.int .i64 (k : Nat))), (15, .ref 177 0 q.2.length q.2.length), (16, .p (.int .i64 (q.1 : Nat)))],
      [(1000000, .box [.p (.sl (encI l)), .p (.int .i64 (b : Nat))]), (4, .box [.cl [], .cl [], .cl [], .cl [], .p (.int .i64 0), .p (.int .i64 0), .p (.int .i64 0), .p (.int .i64 0)]),
       (5, .box [.ref 43 0 bl.length bl.length, .ref 48 0 bl.length bl.length, .ref 102 0 sp.length sp.length, .ref 188 0 rb.length rb.length, .p (.int .i64 (1 + q1)), .p (.int .i64 q2), .p (.int .i64 q3), .p (.int .i64 (1 + q4))]),
       (12, .box [.p (.int .i64 (o.length : Nat)), .unk, .p (.int .i64 slv), .p (.int .i64 cap)]), (43, .arr 56 3 (encK bl)), (48, .arr 23 1 (encG nx)), (102, .arr 52 6 (encP sp)), (188, .arr 3 1 (encI rb)), (177, .arr 3 1 (encI q.2))], 191⟩)
    (fun q => q.1 ≤ sp.length ∧ q.2.length ≤ 4 * q.1 ∧ (∀ x ∈ q.2, sp.any (inD x) = true ∧ x ∉ rb) ∧ ∀ u, u < q.1 → ∀ j : Nat, (sp.getD u spr0).depot = true → (j : Int) < (sp.getD u spr0).slots → (sp.getD u spr0).base + (j : Int) ∈ rb ∨ (sp.getD u spr0).base + (j : Int) ∈ q.2)
    (fun q => sp.length - q.1) (0, []) ⟨Nat.zero_le _, by simp, fun x hx => by simp at hx, fun u hu => absurd hu (Nat.not_lt_zero _)⟩
    ((Wk.nil (t := 15) (q := 177) (sz := 1) 3 rfl rfl (by decide)).trans (Wk.forget (by simp [Le, LeE, LeH, get, envIds, hpIds, KeepH, D.ids, idsL, AO.ids, setL, base, encI]))) ?_
  rintro ⟨i, fr⟩ m4 ⟨hi, hfl, hfr, hcov⟩ ih4
  simp only at hi hfl hfr hcov
  cases c5 : decide ((i : Int) < (sp.length : Int))
  rotate_left
  · have hit : i < sp.length := by have := of_decide_eq_true c5; omega
    have hwi := wrap_succ i (by omega)
    have hgs := encP_get sp i hit
    have hi0 : (0 : Int) ≤ (i : Int) ∧ (i : Int) < (sp.length : Int) := by omega
    have hmem := getD_mem sp i spr0 hit
    obtain ⟨_, _, _, _, g5, g6, g7⟩ := hss i hit
    obtain ⟨g8, g9, _⟩ := spur_rng hss hit
    generalize hse : sp.getD i spr0 = s at *
    simp only [go_sem, c5, encP_len]
    refine X_loop_inv (fun q : Nat × List Int => ⟨[(0, .ptr 1000000 0), (4, .ptr 4 0), (5, .ptr 5 0), (12, .ptr 12 0), (14, .p (.int .i64 (k : Nat))), (15, .ref 177 0 q.2.length q.2.length), (16, .p (.int .i64 (i : Nat))), (17, .p (.int .i64 (q.1 : Nat)))],
        [(1000000, .box [.p (.sl (encI l)), .p (.int .i64 (b : Nat))]), (4, .box [.cl [], .cl [], .cl [], .cl [], .p (.int .i64 0), .p (.int .i64 0), .p (.int .i64 0), .p (.int .i64 0)]),
       (5, .box [.ref 43 0 bl.length bl.length, .ref 48 0 bl.length bl.length, .ref 102 0 sp.length sp.length, .ref 188 0 rb.length rb.length, .p (.int .i64 (1 + q1)), .p (.int .i64 q2), .p (.int .i64 q3), .p (.int .i64 (1 + q4))]),
       (12, .box [.p (.int .i64 (o.length : Nat)), .unk, .p (.int .i64 slv), .p (.int .i64 cap)]), (43, .arr 56 3 (encK bl)), (48, .arr 23 1 (encG nx)), (102, .arr 52 6 (encP sp)), (188, .arr 3 1 (encI rb)), (177, .arr 3 1 (encI q.2))], 191⟩)
      (fun q => q.1 ≤ 4 ∧ (q.1 : Int) ≤ s.slots ∧ q.2.length ≤ 4 * i + q.1 ∧ (∀ x ∈ q.2, sp.any (inD x) = true ∧ x ∉ rb) ∧ (∀ u, u < i → ∀ j : Nat, (sp.getD u spr0).depot = true → (j : Int) < (sp.getD u spr0).slots → (sp.getD u spr0).base + (j : Int) ∈ rb ∨ (sp.getD u spr0).base + (j : Int) ∈ q.2) ∧ ∀ j : Nat, j < q.1 → s.base + (j : Int) ∈ rb ∨ s.base + (j : Int) ∈ q.2)
      (fun q => 4 - q.1) (0, fr) ⟨by simp, by simp only; omega, by simp only; omega, hfr, hcov, fun j hj => absurd hj (Nat.not_lt_zero _)⟩ (Wk.forget (by simp [Le, LeE, LeH, get, envIds, hpIds, KeepH, D.ids, idsL, AO.ids, setL, base, encI])) ?_
    rintro ⟨j, f2⟩ m5 ⟨hj4, hjs, hf2l, hf2, hcov2, hcj⟩ ih5
    simp only at hj4 hjs hf2l hf2 hcov2 hcj
    have hstep : (¬ ((j : Int) < s.slots) ∨ s.depot = false) → ∀ u, u < i + 1 → ∀ j : Nat, (sp.getD u spr0).depot = true → (j : Int) < (sp.getD u spr0).slots → (sp.getD u spr0).base + (j : Int) ∈ rb ∨ (sp.getD u spr0).base + (j : Int) ∈ f2 := by
      intro hx u hu v hd hv
      rcases Nat.lt_succ_iff_lt_or_eq.1 hu with h5 | rfl
      · exact hcov2 u h5 v hd hv
      · rw [hse] at hd hv ⊢
        rcases hx with hx | hx
        · exact hcj v (by omega)
        · rw [hx] at hd; cases hd
    cases c6 : decide ((j : Int) < s.slots)
    · simp only [go_sem, encP_len, Int.toNat_natCast, hgs, hi0, c6, hwi]
      refine ih4 (i + 1, f2) _ ⟨hit, by simp only; omega, hf2, hstep (.inl (of_decide_eq_false c6))⟩ (by simp only; omega) ?_
      (refine Wk.forget ?_; simp [Le, LeE, LeH, get, envIds, hpIds, KeepH, D.ids, idsL, AO.ids, setL, base]; done)
    cases c7 : s.depot
    · simp only [go_sem, encP_len, Int.toNat_natCast, hgs, hi0, c6, c7, hwi]
      refine ih4 (i + 1, f2) _ ⟨hit, by simp only; omega, hf2, hstep (.inr c7)⟩ (by simp only; omega) ?_
      (refine Wk.forget ?_; simp [Le, LeE, LeH, get, envIds, hpIds, KeepH, D.ids, idsL, AO.ids, setL, base]; done)
    have hjt := of_decide_eq_true c6
    have hwj := wrap_succ j (by omega)
    have hwx : IntKind.i64.wrap (s.base + (j : Int)) = s.base + (j : Int) := by rw [wrap_i64_id] <;> omega
    have hin : sp.any (inD (s.base + (j : Int))) = true := by
      rw [List.any_eq_true]
      exact ⟨s, hmem, by unfold inD; rw [c7]; simp; omega⟩
    simp only [go_sem, encP_len, Int.toNat_natCast, hgs, hi0, c6, c7, hwx, encI_len, e4]
    refine Cc_own rfl rfl ?_
    simp only [go_sem, callD_eq]
    refine Kc_of (has_own rb (s.base + (j : Int)) (by omega)) ?_
    rintro h' r ⟨rfl, rfl⟩
    simp only [go_sem]
    cases c8 : decide (s.base + (j : Int) ∈ rb)
    rotate_left
    · simp only [go_sem, c8, hwj]
      refine ih5 (j + 1, f2) _ ⟨by simp only; omega, by simp only; omega, by simp only; omega, hf2, hcov2, fun v hv => ?_⟩ (by simp only; omega) ?_
      · rcases Nat.lt_succ_iff_lt_or_eq.1 hv with h5 | rfl
        · exact hcj v h5
        · exact .inl (of_decide_eq_true c8)
      · (refine Wk.forget ?_; simp [Le, LeE, LeH, get, envIds, hpIds, KeepH, D.ids, idsL, AO.ids, setL, base]; done)
    · simp only [go_sem, c8, encI_len]
      refine ⟨⟨wid1 _ _ rfl, by omega⟩, ?_⟩
      simp only [go_sem, hwj]
      refine ih5 (j + 1, f2 ++ [s.base + (j : Int)]) _ ⟨by simp only; omega, by simp only; omega, by simp; omega, fun x hx => ?_, fun u hu v hd hv => ?_, fun v hv => ?_⟩ (by simp only; omega) ?_
      · rcases List.mem_append.1 hx with hx | hx
        · exact hf2 x hx
        · rw [List.mem_singleton] at hx; subst hx; exact ⟨hin, of_decide_eq_false c8⟩
      · rcases hcov2 u hu v hd hv with h5 | h5
        · exact .inl h5
        · exact .inr (List.mem_append_left _ h5)
      · rcases Nat.lt_succ_iff_lt_or_eq.1 hv with h5 | rfl
        · rcases hcj v h5 with h6 | h6
          · exact .inl h6
          · exact .inr (List.mem_append_left _ h6)
        · exact .inr (by simp)
      · (refine Wk.forget ?_; simp [Le, LeE, LeH, get, envIds, hpIds, KeepH, D.ids, idsL, AO.ids, setL, base, encI_snoc, encI_len]; done)
  have hie : i = sp.length := by have := of_decide_eq_false c5; omega
  subst hie
  obtain ⟨s, hs, j, hd, hj, hnot⟩ := free_slot hss _ (rb := rb) (by have := of_decide_eq_true c4; rw [hslv] at hcap; exact Int.lt_of_lt_of_le this hcap)
  obtain ⟨u, hu, rfl⟩ := List.mem_iff_getElem.1 hs
  have hfne : 0 < fr.length := by
    have h5 := hcov u hu j (by rw [getD_eq hu]; exact hd) (by rw [getD_eq hu]; exact hj)
    rw [getD_eq hu] at h5
    exact List.length_pos_of_mem (h5.resolve_left hnot)
  obtain ⟨v, hv, hvl⟩ := nextV_rng l b fr.length (by omega)
  have hkp : 1 ≤ k := by have := of_decide_eq_true c3; omega
  obtain ⟨k, rfl⟩ : ∃ j, k = j + 1 := ⟨k - 1, by omega⟩
  have hwk := wrap_pred k (by omega)
  have hgv := encI_get fr v (by omega)
  have hv0 : (0 : Int) ≤ (v : Int) ∧ (v : Int) < (fr.length : Int) := by omega
  have hx := hfr _ (getD_mem fr v 0 (by omega))
  simp only [go_sem, c5, encP_len]
  refine X_any [(5, .box [.ref 43 0 bl.length bl.length, .ref 48 0 bl.length bl.length, .ref 102 0 sp.length sp.length, .ref 188 0 rb.length rb.length, .p (.int .i64 (1 + q1)), .p (.int .i64 q2), .p (.int .i64 q3), .p (.int .i64 (1 + q4))]), (177, .arr 3 1 (encI fr))] mixed (p := [(0, 0), (1, 0), (2, 0), (3, 0), (4, 0), (5, 0), (6, 2), (7, 0), (8, 0), (9, 1), (10, 2), (11, 0), (12, 3)]) (by kernel_rfl) (by simp [LeH, get]) ?_
  simp only [go_sem, encI_len]
  refine Gh_of ((next_ok l b fr.length (by omega) (in64_small _ (by omega) (by omega)))) ?_
  rintro h' r ⟨rfl, rfl⟩
  simp only [go_sem, tapeC, hv, encI_len, Int.toNat_natCast, hgv, hv0]
  refine ⟨⟨wid1 _ _ rfl, by omega⟩, ?_⟩
  simp only [go_sem, hwk]
  refine ih (k, b + 1, rb ++ [fr.getD v 0]) _ ⟨by simp; omega, by simp only; omega, robotsP_snoc hrb hx.1 hx.2, .inr (by have := of_decide_eq_true c4; simp; omega)⟩ (by simp only; omega) ?_
  (refine Wk.forget ?_; simp [Le, LeE, LeH, get, envIds, hpIds, KeepH, D.ids, idsL, AO.ids, setL, base, encI_snoc, encI_len]; done)
theorem net_own (l : List Int) (at_ most : Nat) (hat : at_ < 100000) (hm1 : 1 ≤ most) (hm2 : most ≤ 10) :
    ACalls Try.prog 16 [.ptr 1000000 0, .p (.int .i64 (most : Nat))] [(1000000, .box (tapeC l at_))]
      fun h r => ∃ at2 n, at2 ≤ at_ + 200 ∧ NetP n ∧ h = [(1000000, .box (tapeC l at2)), (0, .arr 56 3 (encK n.blocks)), (1, .arr 23 1 (encG n.next)), (2, .arr 52 6 (encP n.spurs)), (3, .arr 3 1 (encI n.robots))] ∧ r = .agg n.os :=
  (net_ownR (fun _ _ => True) (fun n hn => (fleet_ok n hn).mono fun _ _ ⟨h1, o, sl, cap, h2, h3, h4⟩ => ⟨h1, o, sl, cap, h2, h3, h4, trivial⟩) l at_ most hat hm1 hm2).mono
    fun _ _ ⟨at2, n, h1, h2, h3⟩ => ⟨at2, n, h1, h2.1, h3⟩
end Go.Am
end
section
namespace Go.Am
open Go Go.Proofs
set_option maxRecDepth 100000
set_option linter.unusedVariables false
set_option linter.unusedSimpArgs false
def bnm (n : Nt) (x : Int) : List UInt8 := (n.blocks.getD x.toNat blk0).name
def blkD (b : Blk) : Dc := ⟨1, 0, [b.name], [b.x, b.y]⟩
def lanD (n : Nt) (i : Nat) (x : Int) : Dc := ⟨2, 0, [(n.blocks.getD i blk0).name, bnm n x], []⟩
def lanL (n : Nt) (i : Nat) : List Dc := (n.next.getD i []).map (lanD n i)
def sprD (n : Nt) (s : Spr) : Dc := ⟨if s.depot then 4 else 3, 0, [s.name, bnm n s.inn, bnm n s.out], [s.slots]⟩
def inS (x : Int) (s : Spr) : Bool := decide (s.base ≤ x) && decide (x < s.base + s.slots)
def robD (r : Int) (s : Spr) : Dc := ⟨5, 0, [s.name], [r - s.base + 1]⟩
def robL (n : Nt) (r : Int) (k : Nat) : List Dc := ((n.spurs.take k).filter (inS r)).map (robD r)
def desc1 (n : Nt) : List Dc := n.blocks.map blkD
def desc2 (n : Nt) (i : Nat) : List Dc := (List.range i).flatMap (lanL n)
def desc3 (n : Nt) : List Dc := n.spurs.map (sprD n)
def desc4 (n : Nt) (i : Nat) : List Dc := (n.robots.take i).flatMap fun r => robL n r n.spurs.length
def desc0 (n : Nt) : List Dc := desc1 n ++ desc2 n n.blocks.length ++ desc3 n ++ desc4 n n.robots.length ++ [⟨6, 0, [], [n.cq, n.ca, n.cd, n.cp]⟩]
def numD : Nat → List Dc → List Dc
  | _, [] => []
  | i, x :: r => ⟨x.word, (i : Int) + 1, x.names, x.nums⟩ :: numD (i + 1) r
def descV (n : Nt) : List Dc := numD 0 (desc0 n)
theorem numD_len : ∀ (i : Nat) (l : List Dc), (numD i l).length = l.length
  | _, [] => rfl
  | i, _ :: r => by simp [numD, numD_len (i + 1) r]
theorem desc2_succ (n : Nt) (i : Nat) : desc2 n (i + 1) = desc2 n i ++ lanL n i := by simp [desc2, List.range_succ, List.flatMap_append]
theorem desc4_succ (n : Nt) (i : Nat) (h : i < n.robots.length) : desc4 n (i + 1) = desc4 n i ++ robL n (n.robots.getD i 0) n.spurs.length := by
  unfold desc4; rw [take_snoc n.robots i 0 h, List.flatMap_append]; simp
theorem robL_succ (n : Nt) (r : Int) (k : Nat) (h : k < n.spurs.length) : robL n r (k + 1) = robL n r k ++ (if inS r (n.spurs.getD k spr0) then [robD r (n.spurs.getD k spr0)] else []) := by
  unfold robL
  rw [take_snoc n.spurs k spr0 h, List.filter_append, List.map_append]
  generalize n.spurs.getD k spr0 = s
  cases hh : inS r s <;> simp [hh]
theorem encC_setx (l : List Dc) (i : Nat) (x : Dc) : encC (l.set i x) = (encC l).set i [.int .i64 x.word, .int .i64 x.line, .sl (encS x.names), .sl (encI x.nums)] := by simp [encC, List.map_set]
theorem numD_app : ∀ (i : Nat) (a b : List Dc), numD i (a ++ b) = numD i a ++ numD (i + a.length) b
  | _, [], _ => by simp [numD]
  | i, x :: r, b => by simp only [List.cons_append, numD, numD_app (i + 1) r b, List.length_cons]; rw [show i + 1 + r.length = i + (r.length + 1) by omega]
theorem numD_set (L : List Dc) (i : Nat) (h : i < L.length) : (numD 0 (L.take i) ++ L.drop i).set i ⟨(L.getD i dc0).word, (i : Int) + 1, (L.getD i dc0).names, (L.getD i dc0).nums⟩ = numD 0 (L.take (i + 1)) ++ L.drop (i + 1) := by
  rw [take_snoc L i dc0 h, numD_app, drop_getD L i dc0 h, List.set_append_right _ _ (by rw [numD_len]; simp; omega), numD_len, List.length_take, show min i L.length = i by omega]
  simp [numD]
end Go.Am
end
section
namespace Go.Am
open Go Go.Proofs
set_option maxRecDepth 100000
set_option linter.unusedVariables false
set_option linter.unusedSimpArgs false
structure Bdr where
  bl : List Blk
  nx : List (List Int)
  sp : List Spr
  cq : Int
  ca : Int
  cd : Int
  cp : Int
  mb : List (List UInt8 × Int)
  ms : List (List UInt8 × Int)
  ba : List Int
  sl : Int
  pl : List (Int × Int)
  cf : Bool
def encR (l : List (List Int)) : List (List (List Pd)) := l.map encI
def encQ (l : List (Int × Int)) : List (List Pd) := l.map fun p => [.int .i64 p.1, .int .i64 p.2]
theorem encR_len (l : List (List Int)) : (encR l).length = l.length := by simp [encR]
theorem encQ_len (l : List (Int × Int)) : (encQ l).length = l.length := by simp [encQ]
theorem encR_get (l : List (List Int)) (i : Nat) : (encR l).getD i [] = encI (l.getD i []) := by
  unfold encR
  by_cases h : i < l.length
  · simp [List.getD, h]
  · simp [List.getD, h, encI]
theorem encR_snoc (l : List (List Int)) : encR l ++ [[]] = encR (l ++ [[]]) := by simp [encR, encI]
theorem encR_set (l : List (List Int)) (i : Nat) (r : List Int) : encR (l.set i r) = (encR l).set i (encI r) := by simp [encR, List.map_set]
theorem encQ_snoc (l : List (Int × Int)) (p : Int × Int) : encQ (l ++ [p]) = encQ l ++ [[.int .i64 p.1, .int .i64 p.2]] := by simp [encQ]
def Bdr.box (b : Bdr) : List D := [.ref 1000001 0 b.bl.length b.bl.length, .nref 1000002 b.nx.length, .ref 1000003 0 b.sp.length b.sp.length, .cl [], .p (.int .i64 b.cq), .p (.int .i64 b.ca), .p (.int .i64 b.cd), .p (.int .i64 b.cp),
  .mv 1000004, .mv 1000005, .ref 1000006 0 b.ba.length b.ba.length, .p (.int .i64 b.sl), .ref 1000007 0 b.pl.length b.pl.length, .p (.bool b.cf)]
def Bdr.h (b : Bdr) (k : Nat) : Hp := [(1000000, .box b.box), (1000001, .arr 56 3 (encK b.bl)), (1000002, .nst 23 3 1 k (encR b.nx) none), (1000003, .arr 52 6 (encP b.sp)),
  (1000004, .mp (mpS b.mb)), (1000005, .mp (mpS b.ms)), (1000006, .arr 3 1 (encI b.ba)), (1000007, .arr 67 2 (encQ b.pl))]
theorem Bdr.h_eq (b : Bdr) (k : Nat) : b.h k = [(1000000, .box [.ref 1000001 0 b.bl.length b.bl.length, .nref 1000002 b.nx.length, .ref 1000003 0 b.sp.length b.sp.length, .cl [], .p (.int .i64 b.cq), .p (.int .i64 b.ca), .p (.int .i64 b.cd), .p (.int .i64 b.cp),
  .mv 1000004, .mv 1000005, .ref 1000006 0 b.ba.length b.ba.length, .p (.int .i64 b.sl), .ref 1000007 0 b.pl.length b.pl.length, .p (.bool b.cf)]), (1000001, .arr 56 3 (encK b.bl)), (1000002, .nst 23 3 1 k (encR b.nx) none), (1000003, .arr 52 6 (encP b.sp)),
  (1000004, .mp (mpS b.mb)), (1000005, .mp (mpS b.ms)), (1000006, .arr 3 1 (encI b.ba)), (1000007, .arr 67 2 (encQ b.pl))] := rfl
def Bdr.namedV (b : Bdr) (x : List UInt8) : Bool := (getS b.mb x).isSome || (getS b.ms x).isSome
theorem named_ok (b : Bdr) (k : Nat) (x : List UInt8) : ACalls Try.prog 60 [.ptr 1000000 0, .p (.str x)] (b.h k) fun h r => h = b.h k ∧ r = .p (.bool (b.namedV x)) := by
  refine ACalls_X Try.func60 rfl enters60 (by simp [Try.f60]) ?_
  rw [Bdr.h_eq b k]
  simp only [go_sem, KK.fit, mfit_S, mget_S, look_S]
  cases c : (getS b.mb x).isSome
  · simp only [go_sem, c]
    try simp [Bdr.namedV, c]
  · simp only [go_sem, c]
    try simp [Bdr.namedV, c]
end Go.Am
end
section
namespace Go.Am
open Go Go.Proofs
set_option maxRecDepth 100000
set_option linter.unusedVariables false
set_option linter.unusedSimpArgs false
def Bdr.blockV (b : Bdr) (d : Dc) : Int × Bdr :=
  if b.namedV (d.names.getD 0 []) = true then (8, b) else if b.bl.length = 24 then (14, b) else
    (0, { b with mb := putS b.mb (d.names.getD 0 []) b.bl.length, bl := b.bl ++ [⟨d.names.getD 0 [], d.nums.getD 0 0, d.nums.getD 1 0⟩], nx := b.nx ++ [[]] })
theorem block_ok (b : Bdr) (k : Nat) (d : Dc) (h1 : 1 ≤ d.names.length) (h2 : 2 ≤ d.nums.length) (hb : b.bl.length ≤ 24) (hn : b.nx.length ≤ 24) :
    ACalls Try.prog 35 [.ptr 1000000 0, d.d] (b.h k) fun h r => ∃ k', h = (b.blockV d).2.h k' ∧ r = .p (.int .i64 (b.blockV d).1) := by
  have e1 := encS_get d.names 0 (by omega)
  have e2 := encI_get d.nums 0 (by omega)
  have e3 := encI_get d.nums 1 (by omega)
  refine ACalls_X Try.func35 rfl enters35 (by simp [Try.f35]) ?_
  rw [Bdr.h_eq b k]
  unfold Dc.d
  simp only [go_sem, encS_len, e1]
  refine ⟨by omega, ?_⟩
  refine Cc_of (named_ok b k _) ?_
  rintro h' r ⟨rfl, rfl⟩
  cases c : b.namedV (d.names.getD 0 [])
  rotate_left
  · simp only [go_sem, Bdr.h_eq b k, c]
    have hv : b.blockV d = (8, b) := by unfold Bdr.blockV; rw [if_pos c]
    rw [hv]
    exact ⟨k, rfl, rfl⟩
  cases c2 : decide ((b.bl.length : Int) = 24)
  rotate_left
  · simp only [go_sem, Bdr.h_eq b k, c, c2, encK_len]
    have c3 : b.bl.length = 24 := by have := of_decide_eq_true c2; omega
    have hv : b.blockV d = (14, b) := by unfold Bdr.blockV; rw [c, if_neg Bool.false_ne_true, if_pos c3]
    rw [hv]
    exact ⟨k, rfl, rfl⟩
  have c3 : ¬ b.bl.length = 24 := by have := of_decide_eq_false c2; omega
  simp only [go_sem, Bdr.h_eq b k, c, c2, encK_len]
  refine X_any [(1000000, .box b.box), (3, .box [.p (.int .i64 d.word), .p (.int .i64 d.line), .p (.sl (encS d.names)), .p (.sl (encI d.nums))]), (1000001, .arr 56 3 (encK b.bl))] mixed (p := [(0, 0), (1, 0), (2, 0), (3, 0), (4, 0), (5, 0), (6, 0), (7, 0), (8, 0), (9, 0), (10, 0), (11, 0), (12, 0), (13, 0), (14, 3)]) (by kernel_rfl) (by simp [LeH, get, Bdr.box]) ?_
  unfold Bdr.box
  simp only [go_sem, encS_len, e1, encK_len, KK.fit, mfit_S, mset_S, Pd.flat]
  refine ⟨by omega, ?_⟩
  refine X_any [(1000000, .box b.box), (3, .box [.p (.int .i64 d.word), .p (.int .i64 d.line), .p (.sl (encS d.names)), .p (.sl (encI d.nums))])] mixed (p := [(0, 0), (1, 0), (2, 0), (3, 0), (4, 0), (5, 0), (6, 0), (7, 0), (8, 0), (9, 0), (10, 0), (11, 0), (12, 0), (13, 0), (14, 0), (15, 0), (16, 0), (17, 0), (18, 0), (19, 1), (20, 2), (21, 0), (22, 0), (23, 0), (24, 3)]) (by kernel_rfl) (by simp [LeH, get, Bdr.box]) ?_
  unfold Bdr.box
  simp only [go_sem, encS_len, e1, encI_len, e2, e3, encK_len]
  refine ⟨by omega, by omega, by omega, ⟨wid1 _ _ rfl, by omega, by omega⟩, ?_⟩
  refine Af_bsnil rfl ti30 ti23 rfl rfl ?_
  simp only [go_sem]
  refine Af_nstapp rfl rfl rfl rfl ti30 ti30 ti23 rfl rfl (encR_len _).symm rfl rfl (by omega) (by omega) ?_
  simp only [go_sem]
  have hv : b.blockV d = (0, { b with mb := putS b.mb (d.names.getD 0 []) b.bl.length, bl := b.bl ++ [⟨d.names.getD 0 [], d.nums.getD 0 0, d.nums.getD 1 0⟩], nx := b.nx ++ [[]] }) := by
    unfold Bdr.blockV; rw [c, if_neg Bool.false_ne_true, if_neg c3]
  rw [hv]
  refine ⟨k + 1, ?_, rfl⟩
  simp only [Bdr.h_eq, encK_snoc, encR_snoc, List.length_append, List.length_cons, List.length_nil, Nat.zero_add, encK_len]
end Go.Am
end
section
namespace Go.Am
open Go Go.Proofs
set_option maxRecDepth 100000
set_option linter.unusedVariables false
set_option linter.unusedSimpArgs false
def idxV (l : List Int) (x : Int) : Int := if x ∈ l then ((l.idxOf x : Nat) : Int) else -1
theorem idxOf_at {x : Int} : ∀ (l : List Int) (i : Nat), i < l.length → l.getD i 0 = x → x ∉ l.take i → l.idxOf x = i
  | [], i, h, _, _ => by simp at h
  | y :: r, 0, _, h, _ => by simp at h; subst h; simp
  | y :: r, i + 1, h, h1, h2 => by
    simp only [List.take_succ_cons, List.mem_cons, not_or] at h2
    have := idxOf_at r i (by simpa using h) (by simpa [List.getD] using h1) h2.2
    rw [List.idxOf_cons, this]
    have : (y == x) = false := by simpa using fun e : y = x => h2.1 e.symm
    rw [this]; rfl
theorem idxV_at {l : List Int} {x : Int} {i : Nat} (hi : i < l.length) (hx : l.getD i 0 = x) (hn : x ∉ l.take i) : idxV l x = (i : Int) := by
  have h1 : x ∈ l := by rw [← hx]; exact getD_mem l i 0 hi
  unfold idxV
  rw [if_pos h1, idxOf_at l i hi hx hn]
theorem idxV_nonneg (l : List Int) (x : Int) : decide (0 ≤ idxV l x) = decide (x ∈ l) := by
  unfold idxV
  by_cases h : x ∈ l
  · rw [if_pos h]; simp [h]
  · rw [if_neg h]; simp [h]
theorem index_own (l : List Int) (x : Int) (hl : l.length ≤ 10000000) :
    ACalls Try.prog 83 [.ref 1000000 0 l.length l.length, .p (.int .i64 x)] [(1000000, .arr 3 1 (encI l))] fun h r => h = [(1000000, .arr 3 1 (encI l))] ∧ r = .p (.int .i64 (idxV l x)) := by
  refine ACalls_X Try.func83 rfl enters83 (by simp [Try.f83]) ?_
  simp only [go_sem, encI_len]
  refine X_loop_inv (fun i => ⟨[(0, .ref 1000000 0 l.length l.length), (1, .p (.int .i64 x)), (4, .p (.int .i64 0)), (7, .p (.int .i64 l.length)), (8, .p (.int .i64 (i : Nat)))], [(1000000, .arr 3 1 (encI l))], 19⟩) (fun i => i ≤ l.length ∧ x ∉ l.take i) (fun i => l.length - i) 0 ⟨Nat.zero_le _, by simp⟩ (Wk.forget (by simp [Le, LeE, LeH, get, envIds, hpIds, KeepH, D.ids, idsL, AO.ids, setL, base, encI])) ?_
  rintro i n ⟨hi, he⟩ ih
  simp only [go_sem, encI_len]
  refine Cn_split (fun h2 => ?_) (fun h2 => ?_)
  · have hlt : i < l.length := by simp at h2; omega
    have hw := wrap_succ i (by omega)
    have hg := encI_get l i hlt
    have hi0 : (0 : Int) ≤ (i : Int) ∧ (i : Int) < (l.length : Int) := by omega
    have hat := fun h => idxV_at (x := x) hlt h he
    have hx : l[i]? = some (l.getD i 0) := by simp [List.getD, hlt]
    generalize l.getD i 0 = y at *
    simp only [go_sem, encI_len, Int.toNat_natCast, hg, hi0]
    cases hv : decide (x = y)
    · simp only [go_sem, hv, hw]
      refine ih (i + 1) _ ⟨hlt, ?_⟩ (by omega) ?_
      · rw [List.take_add_one, hx]
        have : ¬ x = y := of_decide_eq_false hv
        simp [he, this]
      · (refine Wk.forget ?_; simp [Le, LeE, LeH, get, envIds, hpIds, KeepH, D.ids, idsL, AO.ids, setL, base, encI]; done)
    · simp only [go_sem, hv]
      rw [hat (of_decide_eq_true hv).symm]
      try simp
  · simp only [go_sem]
    have : i = l.length := by simp at h2; omega
    subst this
    rw [List.take_length] at he
    simp [idxV, he]
theorem contains_own (l : List Int) (x : Int) (hl : l.length ≤ 10000000) :
    ACalls Try.prog 61 [.ref 1000000 0 l.length l.length, .p (.int .i64 x)] [(1000000, .arr 3 1 (encI l))] fun h r => h = [(1000000, .arr 3 1 (encI l))] ∧ r = .p (.bool (decide (x ∈ l))) := by
  refine ACalls_X Try.func61 rfl enters61 (by simp [Try.f61]) ?_
  simp only [go_sem, encI_len]
  refine Cc_own rfl rfl ?_
  simp only [go_sem, callD_eq]
  refine Kc_of (index_own l x hl) ?_
  rintro h' r ⟨rfl, rfl⟩
  simp only [go_sem, idxV_nonneg]
theorem contains_row (rows : List (List Int)) (i k : Nat) (x : Int) (hi : i < rows.length) (hl : (rows.getD i []).length ≤ 10000000) :
    ACalls Try.prog 61 [.nr 1000000 i (rows.getD i []).length k, .p (.int .i64 x)] [(1000000, .nst 23 3 1 k (encR rows) none)] fun h r => h = [(1000000, .nst 23 3 1 k (encR rows) none)] ∧ r = .p (.bool (decide (x ∈ rows.getD i []))) := by
  have hg : (encR rows)[i]? = some (encI (rows.getD i [])) := by simp [encR, List.getD, hi]
  refine (ACalls_row (ps := [.int .i64 x]) hg (encI_len _).symm (contains_own (rows.getD i []) x hl) (R' := fun es r => es = encI (rows.getD i []) ∧ r = .p (.bool (decide (x ∈ rows.getD i [])))) ?_).mono ?_
  · rintro h' r ⟨rfl, rfl⟩
    exact ⟨_, rfl, encI_len _, .inr ⟨_, rfl⟩, rfl, rfl⟩
  · rintro h' r ⟨es', rfl, _, rfl, rfl⟩
    refine ⟨?_, rfl⟩
    congr 4
    apply List.ext_getElem?
    intro j
    rw [List.getElem?_set]
    split
    · rename_i e; subst e; rw [hg]; simp [encR, hi]
    · rfl
def Bdr.laneV (b : Bdr) (x y : List UInt8) : Int × Bdr :=
  match getS b.mb x, getS b.mb y with
  | some i, some j => if i = j then (10, b) else if j ∈ b.nx.getD i.toNat [] then (11, b) else if (b.nx.getD i.toNat []).length = 4 then (14, b) else
      (0, { b with nx := b.nx.set i.toNat (b.nx.getD i.toNat [] ++ [j]) })
  | _, _ => (9, b)
theorem lane_ok (b : Bdr) (k : Nat) (x y : List UInt8) (hm : ∀ x i, getS b.mb x = some i → ∃ n : Nat, i = (n : Int) ∧ n < b.nx.length) (hr : ∀ i, (b.nx.getD i []).length ≤ 24) :
    ACalls Try.prog 36 [.ptr 1000000 0, .p (.str x), .p (.str y)] (b.h k) fun h r => ∃ k', h = (b.laneV x y).2.h k' ∧ r = .p (.int .i64 (b.laneV x y).1) := by
  refine ACalls_X Try.func36 rfl enters36 (by simp [Try.f36]) ?_
  rw [Bdr.h_eq b k]
  cases c1 : getS b.mb x with
  | none =>
    simp only [go_sem, KK.fit, mfit_S, mget_S, lookD, c1, Option.isSome_none, Option.getD_none]
    have hv : b.laneV x y = (9, b) := by unfold Bdr.laneV; rw [c1]
    rw [hv]
    exact ⟨k, rfl, rfl⟩
  | some i =>
    cases c2 : getS b.mb y with
    | none =>
      simp only [go_sem, KK.fit, mfit_S, mget_S, lookD, c1, c2, Option.isSome_none, Option.getD_none]
      have hv : b.laneV x y = (9, b) := by unfold Bdr.laneV; rw [c1, c2]
      rw [hv]
      exact ⟨k, rfl, rfl⟩
    | some j =>
      obtain ⟨n, rfl, hn⟩ := hm x i c1
      cases c3 : decide ((n : Int) = j)
      rotate_left
      · simp only [go_sem, KK.fit, mfit_S, mget_S, lookD, c1, c2, c3]
        have c3' : (n : Int) = j := of_decide_eq_true c3
        have hv : b.laneV x y = (10, b) := by unfold Bdr.laneV; rw [c1, c2]; simp only; rw [if_pos c3']
        rw [hv]
        exact ⟨k, rfl, rfl⟩
      have c3' : ¬ (n : Int) = j := of_decide_eq_false c3
      have hn0 : (0 : Int) ≤ (n : Int) ∧ (n : Int) < (b.nx.length : Int) := by omega
      simp only [go_sem, KK.fit, mfit_S, mget_S, lookD, c1, c2, c3, hn0, Int.toNat_natCast, encR_get, encI_len, encR_len]
      refine Cc_of (contains_row b.nx n k j hn (by have := hr n; omega)) ?_
      rintro h' r ⟨rfl, rfl⟩
      cases c4 : decide (j ∈ b.nx.getD n [])
      rotate_left
      · simp only [go_sem, c4]
        have c4' : j ∈ b.nx.getD n [] := of_decide_eq_true c4
        have hv : b.laneV x y = (11, b) := by unfold Bdr.laneV; rw [c1, c2]; simp only [Int.toNat_natCast]; rw [if_neg c3', if_pos c4']
        rw [hv]
        exact ⟨k, rfl, rfl⟩
      have c4' : ¬ j ∈ b.nx.getD n [] := of_decide_eq_false c4
      have hrn := hr n
      cases c5 : decide (((b.nx.getD n []).length : Int) = 4)
      rotate_left
      · simp only [go_sem, c4, c5, hn0, Int.toNat_natCast, encR_get, encI_len, encR_len]
        have c5' : (b.nx.getD n []).length = 4 := by have := of_decide_eq_true c5; omega
        have hv : b.laneV x y = (14, b) := by unfold Bdr.laneV; rw [c1, c2]; simp only [Int.toNat_natCast]; rw [if_neg c3', if_neg c4', if_pos c5']
        rw [hv]
        exact ⟨k, rfl, rfl⟩
      have c5' : ¬ (b.nx.getD n []).length = 4 := by have := of_decide_eq_false c5; omega
      simp only [go_sem, c4, c5, hn0, Int.toNat_natCast, encR_get, encI_len, encR_len]
      refine X_any [(1000000, .box b.box)] mixed (p := [(0, 0), (1, 0), (2, 0), (3, 0), (4, 0), (5, 0), (6, 0), (7, 0), (8, 0), (9, 0), (10, 0), (11, 0), (12, 0), (14, 0), (15, 1), (13, 2), (16, 2), (17, 0), (18, 3)]) (by kernel_rfl) (by simp [LeH, get, Bdr.box]) ?_
      unfold Bdr.box
      simp only [go_sem, hn0, Int.toNat_natCast, encR_get, encI_len, encR_len]
      refine ⟨⟨wid1 _ _ rfl, hn, by omega, by omega⟩, ?_⟩
      have hv : b.laneV x y = (0, { b with nx := b.nx.set n (b.nx.getD n [] ++ [j]) }) := by
        unfold Bdr.laneV; rw [c1, c2]; simp only [Int.toNat_natCast]; rw [if_neg c3', if_neg c4', if_neg c5']
      rw [hv]
      refine ⟨k + 1 + 1, ?_, rfl⟩
      simp only [Bdr.h_eq, encR_set, encI_snoc, List.length_set]
end Go.Am
end
section
namespace Go.Am
open Go Go.Proofs
set_option maxRecDepth 100000
set_option linter.unusedVariables false
set_option linter.unusedSimpArgs false
def Bdr.spurV (b : Bdr) (d : Dc) : Int × Bdr :=
  if b.namedV (d.names.getD 0 []) = true then (8, b) else match getS b.mb (d.names.getD 1 []), getS b.mb (d.names.getD 2 []) with
  | some i, some j => if decide (d.nums.getD 0 0 < 1) = true then (12, b) else if decide (4 < d.nums.getD 0 0) = true then (12, b) else if b.sp.length = 6 then (14, b) else
      (0, { b with ms := putS b.ms (d.names.getD 0 []) b.sp.length, sp := b.sp ++ [⟨d.names.getD 0 [], decide (d.word = 4), i, j, d.nums.getD 0 0, 0⟩], ba := b.ba ++ [b.sl], sl := b.sl + d.nums.getD 0 0 })
  | _, _ => (9, b)
theorem spur_ok (b : Bdr) (k : Nat) (d : Dc) (h1 : 3 ≤ d.names.length) (h2 : 1 ≤ d.nums.length) (hb : b.sp.length ≤ 6) (hba : b.ba.length ≤ 6) (hs : 0 ≤ b.sl ∧ b.sl ≤ 1000) :
    ACalls Try.prog 39 [.ptr 1000000 0, d.d] (b.h k) fun h r => ∃ k', h = (b.spurV d).2.h k' ∧ r = .p (.int .i64 (b.spurV d).1) := by
  have e1 := encS_get d.names 0 (by omega)
  have e4 := encS_get d.names 1 (by omega)
  have e5 := encS_get d.names 2 (by omega)
  have e2 := encI_get d.nums 0 (by omega)
  refine ACalls_X Try.func39 rfl enters39 (by simp [Try.f39]) ?_
  rw [Bdr.h_eq b k]
  unfold Dc.d
  simp only [go_sem]
  cases c : b.namedV (d.names.getD 0 [])
  rotate_left
  · cases c1 : getS b.mb (d.names.getD 1 []) <;> cases c2 : getS b.mb (d.names.getD 2 []) <;>
    · skip
      refine X_any [(1000000, .box b.box), (3, .box [.p (.int .i64 d.word), .p (.int .i64 d.line), .p (.sl (encS d.names)), .p (.sl (encI d.nums))]), (1000004, .mp (mpS b.mb))] mixed (p := [(0, 0), (1, 0), (2, 0), (3, 0), (4, 0), (5, 0), (6, 0), (7, 0), (8, 0), (9, 0), (10, 0), (11, 0), (12, 0), (13, 0)]) (by kernel_rfl) (by simp [LeH, get, Bdr.box]) ?_
      unfold Bdr.box
      simp only [go_sem, encS_len, e1, e4, e5, KK.fit, mfit_S, mget_S, lookD, c1, c2, Option.isSome_none]
      refine ⟨by omega, ?_⟩
      refine X_any [(1000000, .box b.box), (3, .box [.p (.int .i64 d.word), .p (.int .i64 d.line), .p (.sl (encS d.names)), .p (.sl (encI d.nums))]), (1000004, .mp (mpS b.mb))] mixed (p := [(0, 0), (1, 0), (2, 0), (3, 0), (4, 0), (5, 0), (6, 0), (7, 0), (8, 0), (9, 0), (10, 0), (11, 0), (12, 0), (13, 0)]) (by kernel_rfl) (by simp [LeH, get, Bdr.box]) ?_
      unfold Bdr.box
      simp only [go_sem, encS_len, e1, e4, e5, KK.fit, mfit_S, mget_S, lookD, c1, c2, Option.isSome_none]
      refine ⟨by omega, by omega, ?_⟩
      refine Cc_of (named_ok b k _) ?_
      rintro h' r ⟨rfl, rfl⟩
      simp only [go_sem, Bdr.h_eq b k, c]
      have hv : b.spurV d = (8, b) := by unfold Bdr.spurV; simp only [c]; try simp
      rw [hv]
      exact ⟨k, rfl, rfl⟩
  cases c1 : getS b.mb (d.names.getD 1 []) with
  | none =>
    cases c2 : getS b.mb (d.names.getD 2 []) <;>
    · skip
      refine X_any [(1000000, .box b.box), (3, .box [.p (.int .i64 d.word), .p (.int .i64 d.line), .p (.sl (encS d.names)), .p (.sl (encI d.nums))]), (1000004, .mp (mpS b.mb))] mixed (p := [(0, 0), (1, 0), (2, 0), (3, 0), (4, 0), (5, 0), (6, 0), (7, 0), (8, 0), (9, 0), (10, 0), (11, 0), (12, 0), (13, 0)]) (by kernel_rfl) (by simp [LeH, get, Bdr.box]) ?_
      unfold Bdr.box
      simp only [go_sem, encS_len, e1, e4, e5, KK.fit, mfit_S, mget_S, lookD, c1, c2, Option.isSome_none]
      refine ⟨by omega, ?_⟩
      refine X_any [(1000000, .box b.box), (3, .box [.p (.int .i64 d.word), .p (.int .i64 d.line), .p (.sl (encS d.names)), .p (.sl (encI d.nums))]), (1000004, .mp (mpS b.mb))] mixed (p := [(0, 0), (1, 0), (2, 0), (3, 0), (4, 0), (5, 0), (6, 0), (7, 0), (8, 0), (9, 0), (10, 0), (11, 0), (12, 0), (13, 0)]) (by kernel_rfl) (by simp [LeH, get, Bdr.box]) ?_
      unfold Bdr.box
      simp only [go_sem, encS_len, e1, e4, e5, KK.fit, mfit_S, mget_S, lookD, c1, c2, Option.isSome_none]
      refine ⟨by omega, by omega, ?_⟩
      refine Cc_of (named_ok b k _) ?_
      rintro h' r ⟨rfl, rfl⟩
      simp only [go_sem, Bdr.h_eq b k, c]
      have hv : b.spurV d = (9, b) := by unfold Bdr.spurV; simp only [c, c1]; try simp
      rw [hv]
      exact ⟨k, rfl, rfl⟩
  | some i =>
    cases c2 : getS b.mb (d.names.getD 2 []) with
    | none =>
      refine X_any [(1000000, .box b.box), (3, .box [.p (.int .i64 d.word), .p (.int .i64 d.line), .p (.sl (encS d.names)), .p (.sl (encI d.nums))]), (1000004, .mp (mpS b.mb))] mixed (p := [(0, 0), (1, 0), (2, 0), (3, 0), (4, 0), (5, 0), (6, 0), (7, 0), (8, 0), (9, 0), (10, 0), (11, 0), (12, 0), (13, 0)]) (by kernel_rfl) (by simp [LeH, get, Bdr.box]) ?_
      unfold Bdr.box
      simp only [go_sem, encS_len, e1, e4, e5, KK.fit, mfit_S, mget_S, lookD, c1, c2, Option.isSome_none]
      refine ⟨by omega, ?_⟩
      refine X_any [(1000000, .box b.box), (3, .box [.p (.int .i64 d.word), .p (.int .i64 d.line), .p (.sl (encS d.names)), .p (.sl (encI d.nums))]), (1000004, .mp (mpS b.mb))] mixed (p := [(0, 0), (1, 0), (2, 0), (3, 0), (4, 0), (5, 0), (6, 0), (7, 0), (8, 0), (9, 0), (10, 0), (11, 0), (12, 0), (13, 0)]) (by kernel_rfl) (by simp [LeH, get, Bdr.box]) ?_
      unfold Bdr.box
      simp only [go_sem, encS_len, e1, e4, e5, KK.fit, mfit_S, mget_S, lookD, c1, c2, Option.isSome_none]
      refine ⟨by omega, by omega, ?_⟩
      refine Cc_of (named_ok b k _) ?_
      rintro h' r ⟨rfl, rfl⟩
      simp only [go_sem, Bdr.h_eq b k, c]
      have hv : b.spurV d = (9, b) := by unfold Bdr.spurV; simp only [c, c1, c2]; try simp
      rw [hv]
      exact ⟨k, rfl, rfl⟩
    | some j =>
      cases c3 : decide (d.nums.getD 0 0 < 1)
      rotate_left
      · skip
        refine X_any [(1000000, .box b.box), (3, .box [.p (.int .i64 d.word), .p (.int .i64 d.line), .p (.sl (encS d.names)), .p (.sl (encI d.nums))]), (1000004, .mp (mpS b.mb))] mixed (p := [(0, 0), (1, 0), (2, 0), (3, 0), (4, 0), (5, 0), (6, 0), (7, 0), (8, 0), (9, 0), (10, 0), (11, 0), (12, 0), (13, 0)]) (by kernel_rfl) (by simp [LeH, get, Bdr.box]) ?_
        unfold Bdr.box
        simp only [go_sem, encS_len, e1, e4, e5, KK.fit, mfit_S, mget_S, lookD, c1, c2]
        refine ⟨by omega, ?_⟩
        refine X_any [(1000000, .box b.box), (3, .box [.p (.int .i64 d.word), .p (.int .i64 d.line), .p (.sl (encS d.names)), .p (.sl (encI d.nums))]), (1000004, .mp (mpS b.mb))] mixed (p := [(0, 0), (1, 0), (2, 0), (3, 0), (4, 0), (5, 0), (6, 0), (7, 0), (8, 0), (9, 0), (10, 0), (11, 0), (12, 0), (13, 0)]) (by kernel_rfl) (by simp [LeH, get, Bdr.box]) ?_
        unfold Bdr.box
        simp only [go_sem, encS_len, e1, e4, e5, KK.fit, mfit_S, mget_S, lookD, c1, c2]
        refine ⟨by omega, by omega, ?_⟩
        refine Cc_of (named_ok b k _) ?_
        rintro h' r ⟨rfl, rfl⟩
        simp only [go_sem, Bdr.h_eq b k, c, encI_len, e2, c3]
        refine ⟨by omega, ?_⟩
        have hv : b.spurV d = (12, b) := by unfold Bdr.spurV; simp only [c, c1, c2, c3]; try simp
        rw [hv]
        exact ⟨k, rfl, rfl⟩
      cases c4 : decide (4 < d.nums.getD 0 0)
      rotate_left
      · skip
        refine X_any [(1000000, .box b.box), (3, .box [.p (.int .i64 d.word), .p (.int .i64 d.line), .p (.sl (encS d.names)), .p (.sl (encI d.nums))]), (1000004, .mp (mpS b.mb))] mixed (p := [(0, 0), (1, 0), (2, 0), (3, 0), (4, 0), (5, 0), (6, 0), (7, 0), (8, 0), (9, 0), (10, 0), (11, 0), (12, 0), (13, 0)]) (by kernel_rfl) (by simp [LeH, get, Bdr.box]) ?_
        unfold Bdr.box
        simp only [go_sem, encS_len, e1, e4, e5, KK.fit, mfit_S, mget_S, lookD, c1, c2]
        refine ⟨by omega, ?_⟩
        refine X_any [(1000000, .box b.box), (3, .box [.p (.int .i64 d.word), .p (.int .i64 d.line), .p (.sl (encS d.names)), .p (.sl (encI d.nums))]), (1000004, .mp (mpS b.mb))] mixed (p := [(0, 0), (1, 0), (2, 0), (3, 0), (4, 0), (5, 0), (6, 0), (7, 0), (8, 0), (9, 0), (10, 0), (11, 0), (12, 0), (13, 0)]) (by kernel_rfl) (by simp [LeH, get, Bdr.box]) ?_
        unfold Bdr.box
        simp only [go_sem, encS_len, e1, e4, e5, KK.fit, mfit_S, mget_S, lookD, c1, c2]
        refine ⟨by omega, by omega, ?_⟩
        refine Cc_of (named_ok b k _) ?_
        rintro h' r ⟨rfl, rfl⟩
        simp only [go_sem, Bdr.h_eq b k, c, encI_len, e2, c3, c4]
        refine ⟨by omega, by omega, ?_⟩
        have hv : b.spurV d = (12, b) := by unfold Bdr.spurV; simp only [c, c1, c2, c3, c4]; try simp
        rw [hv]
        exact ⟨k, rfl, rfl⟩
      have c3' : ¬ d.nums.getD 0 0 < 1 := of_decide_eq_false c3
      have c4' : ¬ 4 < d.nums.getD 0 0 := of_decide_eq_false c4
      cases c5 : decide ((b.sp.length : Int) = 6)
      rotate_left
      · skip
        refine X_any [(1000000, .box b.box), (3, .box [.p (.int .i64 d.word), .p (.int .i64 d.line), .p (.sl (encS d.names)), .p (.sl (encI d.nums))]), (1000004, .mp (mpS b.mb))] mixed (p := [(0, 0), (1, 0), (2, 0), (3, 0), (4, 0), (5, 0), (6, 0), (7, 0), (8, 0), (9, 0), (10, 0), (11, 0), (12, 0), (13, 0)]) (by kernel_rfl) (by simp [LeH, get, Bdr.box]) ?_
        unfold Bdr.box
        simp only [go_sem, encS_len, e1, e4, e5, KK.fit, mfit_S, mget_S, lookD, c1, c2]
        refine ⟨by omega, ?_⟩
        refine X_any [(1000000, .box b.box), (3, .box [.p (.int .i64 d.word), .p (.int .i64 d.line), .p (.sl (encS d.names)), .p (.sl (encI d.nums))]), (1000004, .mp (mpS b.mb))] mixed (p := [(0, 0), (1, 0), (2, 0), (3, 0), (4, 0), (5, 0), (6, 0), (7, 0), (8, 0), (9, 0), (10, 0), (11, 0), (12, 0), (13, 0)]) (by kernel_rfl) (by simp [LeH, get, Bdr.box]) ?_
        unfold Bdr.box
        simp only [go_sem, encS_len, e1, e4, e5, KK.fit, mfit_S, mget_S, lookD, c1, c2]
        refine ⟨by omega, by omega, ?_⟩
        refine Cc_of (named_ok b k _) ?_
        rintro h' r ⟨rfl, rfl⟩
        simp only [go_sem, Bdr.h_eq b k, c, encI_len, e2, c3, c4, c5, encP_len]
        refine ⟨by omega, by omega, ?_⟩
        have c5' : b.sp.length = 6 := by have := of_decide_eq_true c5; omega
        have hv : b.spurV d = (14, b) := by unfold Bdr.spurV; simp only [c, c1, c2, c3, c4, c5']; try simp
        rw [hv]
        exact ⟨k, rfl, rfl⟩
      have c5' : ¬ b.sp.length = 6 := by have := of_decide_eq_false c5; omega
      refine X_any [(1000000, .box b.box), (3, .box [.p (.int .i64 d.word), .p (.int .i64 d.line), .p (.sl (encS d.names)), .p (.sl (encI d.nums))]), (1000004, .mp (mpS b.mb))] mixed (p := [(0, 0), (1, 0), (2, 0), (3, 0), (4, 0), (5, 0), (6, 0), (7, 0), (8, 0), (9, 0), (10, 0), (11, 0), (12, 0), (13, 0)]) (by kernel_rfl) (by simp [LeH, get, Bdr.box]) ?_
      unfold Bdr.box
      simp only [go_sem, encS_len, e1, e4, e5, KK.fit, mfit_S, mget_S, lookD, c1, c2]
      refine ⟨by omega, ?_⟩
      refine X_any [(1000000, .box b.box), (3, .box [.p (.int .i64 d.word), .p (.int .i64 d.line), .p (.sl (encS d.names)), .p (.sl (encI d.nums))]), (1000004, .mp (mpS b.mb))] mixed (p := [(0, 0), (1, 0), (2, 0), (3, 0), (4, 0), (5, 0), (6, 0), (7, 0), (8, 0), (9, 0), (10, 0), (11, 0), (12, 0), (13, 0)]) (by kernel_rfl) (by simp [LeH, get, Bdr.box]) ?_
      unfold Bdr.box
      simp only [go_sem, encS_len, e1, e4, e5, KK.fit, mfit_S, mget_S, lookD, c1, c2]
      refine ⟨by omega, by omega, ?_⟩
      refine Cc_of (named_ok b k _) ?_
      rintro h' r ⟨rfl, rfl⟩
      simp only [go_sem, Bdr.h_eq b k, c, encI_len, e2, c3, c4, c5, encP_len]
      refine ⟨by omega, by omega, ?_⟩
      refine X_any [(1000000, .box b.box), (3, .box [.p (.int .i64 d.word), .p (.int .i64 d.line), .p (.sl (encS d.names)), .p (.sl (encI d.nums))]), (1000003, .arr 52 6 (encP b.sp))] mixed (p := [(0, 0), (1, 0), (2, 0), (3, 0), (4, 0), (5, 0), (6, 0), (7, 0), (8, 0), (9, 0), (10, 0), (11, 0), (12, 0), (13, 0), (14, 3)]) (by kernel_rfl) (by simp [LeH, get, Bdr.box]) ?_
      unfold Bdr.box
      simp only [go_sem, encS_len, e1, encP_len, KK.fit, mfit_S, mset_S, Pd.flat]
      refine ⟨by omega, ?_⟩
      refine X_any [(1000000, .box b.box), (3, .box [.p (.int .i64 d.word), .p (.int .i64 d.line), .p (.sl (encS d.names)), .p (.sl (encI d.nums))])] mixed (p := [(0, 0), (1, 0), (2, 0), (3, 0), (4, 0), (5, 0), (6, 0), (7, 0), (8, 0), (9, 0), (10, 0), (11, 0), (12, 0), (13, 0), (14, 0), (15, 0), (16, 0), (17, 0), (18, 0), (19, 0), (20, 1), (21, 2), (22, 0), (23, 0), (24, 0), (25, 3)]) (by kernel_rfl) (by simp [LeH, get, Bdr.box]) ?_
      unfold Bdr.box
      simp only [go_sem, encS_len, e1, encI_len, e2, encP_len, List.length_append]
      refine ⟨by omega, by omega, ⟨wid1 _ _ rfl, by omega, by omega⟩, ?_⟩
      refine X_any [(1000000, .box (Bdr.box { b with sp := b.sp ++ [⟨d.names.getD 0 [], decide (d.word = 4), i, j, d.nums.getD 0 0, 0⟩] }))] mixed (p := [(0, 0), (1, 0), (2, 0), (3, 0), (4, 0), (5, 0), (6, 0), (7, 0), (8, 0), (9, 1), (10, 2), (11, 0), (12, 0), (13, 3)]) (by kernel_rfl) (by simp [LeH, get, Bdr.box, encP_len]) ?_
      unfold Bdr.box
      simp only [go_sem, encI_len, List.length_append]
      refine ⟨⟨wid1 _ _ rfl, by omega, by omega⟩, ?_⟩
      have hw : IntKind.i64.wrap (b.sl + d.nums.getD 0 0) = b.sl + d.nums.getD 0 0 := by rw [wrap_i64_id] <;> omega
      refine X_any [(1000000, .box (Bdr.box { b with sp := b.sp ++ [⟨d.names.getD 0 [], decide (d.word = 4), i, j, d.nums.getD 0 0, 0⟩], ba := b.ba ++ [b.sl] })), (3, .box [.p (.int .i64 d.word), .p (.int .i64 d.line), .p (.sl (encS d.names)), .p (.sl (encI d.nums))])] mixed (p := [(0, 0), (1, 0), (2, 0), (3, 0), (4, 0), (5, 0), (6, 0), (7, 0), (8, 0), (9, 0), (10, 0), (11, 3)]) (by kernel_rfl) (by simp [LeH, get, Bdr.box, encP_len, encI_len]) ?_
      unfold Bdr.box
      simp only [go_sem, encI_len, e2, hw, List.length_append]
      refine ⟨by omega, ?_⟩
      have hv : b.spurV d = (0, { b with ms := putS b.ms (d.names.getD 0 []) b.sp.length, sp := b.sp ++ [⟨d.names.getD 0 [], decide (d.word = 4), i, j, d.nums.getD 0 0, 0⟩], ba := b.ba ++ [b.sl], sl := b.sl + d.nums.getD 0 0 }) := by
        unfold Bdr.spurV; simp only [c, c1, c2, c3, c4, if_neg c5', Bool.false_eq_true, if_false]
      rw [hv]
      refine ⟨k, ?_, rfl⟩
      simp only [Bdr.h_eq, encP_snoc, encI_snoc, List.length_append, List.length_cons, List.length_nil, Nat.zero_add]
end Go.Am
end
section
namespace Go.Am
open Go Go.Proofs
set_option maxRecDepth 100000
set_option linter.unusedVariables false
set_option linter.unusedSimpArgs false
def inV (n lo hi : Int) : Bool := decide (lo ≤ n) && decide (n ≤ hi)
theorem within_ok (n lo hi : Int) : ACalls Try.prog 24 [.p (.int .i64 n), .p (.int .i64 lo), .p (.int .i64 hi)] [] fun h r => h = [] ∧ r = .p (.bool (inV n lo hi)) := by
  refine ACalls_X Try.func24 rfl enters24 (by simp [Try.f24]) ?_
  cases c : decide (lo ≤ n)
  · simp only [go_sem, c]
    try simp [inV, c]
  · simp only [go_sem, c]
    try simp [inV, c]
def cfgV (q a d p : Int) : Bool := inV q 1 8 && (inV a 0 4 && (inV d 0 3 && inV p 1 16))
theorem validConfig_ok (q a d p : Int) : ACalls Try.prog 25 [.agg [.p (.int .i64 q), .p (.int .i64 a), .p (.int .i64 d), .p (.int .i64 p)]] [] fun h r => h = [] ∧ r = .p (.bool (cfgV q a d p)) := by
  refine ACalls_X Try.func25 rfl enters25 (by simp [Try.f25]) ?_
  simp only [go_sem]
  refine Cc_of ((within_ok q 1 8)) ?_
  rintro h' r ⟨rfl, rfl⟩
  cases c1 : inV q 1 8
  · simp only [go_sem, c1]
    try simp [cfgV, c1]
  simp only [go_sem, c1]
  refine Cc_of ((within_ok a 0 4)) ?_
  rintro h' r ⟨rfl, rfl⟩
  cases c2 : inV a 0 4
  · simp only [go_sem, c2]
    try simp [cfgV, c1, c2]
  simp only [go_sem, c2]
  refine Cc_of ((within_ok d 0 3)) ?_
  rintro h' r ⟨rfl, rfl⟩
  cases c3 : inV d 0 3
  · simp only [go_sem, c3]
    try simp [cfgV, c1, c2, c3]
  simp only [go_sem, c3]
  refine Cc_of ((within_ok p 1 16)) ?_
  rintro h' r ⟨rfl, rfl⟩
  simp only [go_sem]
  try simp [cfgV, c1, c2, c3]
def Bdr.configV (b : Bdr) (d : Dc) : Int × Bdr :=
  if b.cf = true then (11, b) else if cfgV (d.nums.getD 0 0) (d.nums.getD 1 0) (d.nums.getD 2 0) (d.nums.getD 3 0) = false then (19, b) else
    (0, { b with cq := d.nums.getD 0 0, ca := d.nums.getD 1 0, cd := d.nums.getD 2 0, cp := d.nums.getD 3 0, cf := true })
theorem config_ok (b : Bdr) (k : Nat) (d : Dc) (h2 : 4 ≤ d.nums.length) :
    ACalls Try.prog 38 [.ptr 1000000 0, d.d] (b.h k) fun h r => ∃ k', h = (b.configV d).2.h k' ∧ r = .p (.int .i64 (b.configV d).1) := by
  have e0 := encI_get d.nums 0 (by omega)
  have e1 := encI_get d.nums 1 (by omega)
  have e2 := encI_get d.nums 2 (by omega)
  have e3 := encI_get d.nums 3 (by omega)
  refine ACalls_X Try.func38 rfl enters38 (by simp [Try.f38]) ?_
  rw [Bdr.h_eq b k]
  unfold Dc.d
  simp only [go_sem]
  refine X_any [(3, .box [.p (.int .i64 d.word), .p (.int .i64 d.line), .p (.sl (encS d.names)), .p (.sl (encI d.nums))])] mixed (p := [(0, 0), (1, 0), (2, 0), (3, 0), (4, 0), (5, 0), (6, 0), (7, 0), (8, 0), (9, 0), (10, 0), (11, 0), (12, 0), (13, 0), (14, 0), (15, 0), (16, 0), (17, 1), (18, 3)]) (by kernel_rfl) (by simp [LeH, get]) ?_
  cases c : b.cf
  rotate_left
  · simp only [go_sem, encI_len, e0, e1, e2, e3, c]
    refine ⟨by omega, by omega, by omega, by omega, ?_⟩
    have hv : b.configV d = (11, b) := by unfold Bdr.configV; rw [if_pos c]
    rw [hv]
    refine ⟨k, ?_, rfl⟩
    rw [Bdr.h_eq, c]
  simp only [go_sem, encI_len, e0, e1, e2, e3, c]
  refine ⟨by omega, by omega, by omega, by omega, ?_⟩
  refine Cc_of ((validConfig_ok (d.nums.getD 0 0) (d.nums.getD 1 0) (d.nums.getD 2 0) (d.nums.getD 3 0))) ?_
  rintro h' r ⟨rfl, rfl⟩
  cases c2 : cfgV (d.nums.getD 0 0) (d.nums.getD 1 0) (d.nums.getD 2 0) (d.nums.getD 3 0)
  · simp only [go_sem, c2]
    have hv : b.configV d = (19, b) := by unfold Bdr.configV; rw [c, if_neg Bool.false_ne_true, if_pos c2]
    rw [hv]
    refine ⟨k, ?_, rfl⟩
    rw [Bdr.h_eq, c]
  simp only [go_sem, c2]
  have hv : b.configV d = (0, { b with cq := d.nums.getD 0 0, ca := d.nums.getD 1 0, cd := d.nums.getD 2 0, cp := d.nums.getD 3 0, cf := true }) := by unfold Bdr.configV; rw [c, if_neg Bool.false_ne_true, c2, if_neg (by simp)]
  rw [hv]
  exact ⟨k, rfl, rfl⟩
end Go.Am
end
section
namespace Go.Am
open Go Go.Proofs
set_option maxRecDepth 100000
set_option linter.unusedVariables false
set_option linter.unusedSimpArgs false
def idxP (l : List (Int × Int)) (x : Int × Int) : Int := if x ∈ l then ((l.idxOf x : Nat) : Int) else -1
theorem idxOfP_at {x : Int × Int} : ∀ (l : List (Int × Int)) (i : Nat), i < l.length → l.getD i (0, 0) = x → x ∉ l.take i → l.idxOf x = i
  | [], i, h, _, _ => by simp at h
  | y :: r, 0, _, h, _ => by simp at h; subst h; simp
  | y :: r, i + 1, h, h1, h2 => by
    simp only [List.take_succ_cons, List.mem_cons, not_or] at h2
    have := idxOfP_at r i (by simpa using h) (by simpa [List.getD] using h1) h2.2
    rw [List.idxOf_cons, this]
    have : (y == x) = false := by simpa using fun e : y = x => h2.1 e.symm
    rw [this]; rfl
theorem idxP_at {l : List (Int × Int)} {x : Int × Int} {i : Nat} (hi : i < l.length) (hx : l.getD i (0, 0) = x) (hn : x ∉ l.take i) : idxP l x = (i : Int) := by
  have h1 : x ∈ l := by rw [← hx]; exact getD_mem l i (0, 0) hi
  unfold idxP
  rw [if_pos h1, idxOfP_at l i hi hx hn]
theorem idxP_nonneg (l : List (Int × Int)) (x : Int × Int) : decide (0 ≤ idxP l x) = decide (x ∈ l) := by
  unfold idxP
  by_cases h : x ∈ l
  · rw [if_pos h]; simp [h]
  · rw [if_neg h]; simp [h]
theorem encQ_get (l : List (Int × Int)) (i : Nat) (h : i < l.length) : (encQ l).getD i [] = [.int .i64 (l.getD i (0, 0)).1, .int .i64 (l.getD i (0, 0)).2] := by simp [encQ, List.getD, h]
theorem indexP_own (l : List (Int × Int)) (x : Int × Int) (hl : l.length ≤ 10000000) :
    ACalls Try.prog 84 [.ref 1000000 0 l.length l.length, .agg [.p (.int .i64 x.1), .p (.int .i64 x.2)]] [(1000000, .arr 67 2 (encQ l))] fun h r => h = [(1000000, .arr 67 2 (encQ l))] ∧ r = .p (.int .i64 (idxP l x)) := by
  refine ACalls_X Try.func84 rfl enters84 (by simp [Try.f84]) ?_
  simp only [go_sem, encQ_len]
  refine X_loop_inv (fun i => ⟨[(0, .ref 1000000 0 l.length l.length), (3, .ptr 3 0), (4, .p (.int .i64 0)), (7, .p (.int .i64 l.length)), (8, .p (.int .i64 (i : Nat)))], [(3, .box [.p (.int .i64 x.1), .p (.int .i64 x.2)]), (1000000, .arr 67 2 (encQ l))], 19⟩) (fun i => i ≤ l.length ∧ x ∉ l.take i) (fun i => l.length - i) 0 ⟨Nat.zero_le _, by simp⟩ (Wk.forget (by simp [Le, LeE, LeH, get, envIds, hpIds, KeepH, D.ids, idsL, AO.ids, setL, base, encQ])) ?_
  rintro i n ⟨hi, he⟩ ih
  simp only [go_sem, encQ_len]
  refine Cn_split (fun h2 => ?_) (fun h2 => ?_)
  · have hlt : i < l.length := by simp at h2; omega
    have hw := wrap_succ i (by omega)
    have hg := encQ_get l i hlt
    have hi0 : (0 : Int) ≤ (i : Int) ∧ (i : Int) < (l.length : Int) := by omega
    have hat := fun h => idxP_at (x := x) hlt h he
    have hx : l[i]? = some (l.getD i (0, 0)) := by simp [List.getD, hlt]
    generalize l.getD i (0, 0) = y at *
    simp only [go_sem, encQ_len, Int.toNat_natCast, hg, hi0]
    refine X_any [(3, .box [.p (.int .i64 x.1), .p (.int .i64 x.2)]), (1000000, .arr 67 2 (encQ l))] mixed (p := [(0, 0), (1, 0), (2, 0), (3, 0), (4, 0), (5, 0)]) (by kernel_rfl) (by simp [LeH, get]) ?_
    cases h1 : decide (x.1 = y.1)
    · simp only [go_sem, encQ_len, Int.toNat_natCast, hg, hi0, h1, hw]
      have hne : ¬ x = y := fun e => (of_decide_eq_false h1) (by rw [e])
      refine ih (i + 1) _ ⟨hlt, by rw [List.take_add_one, hx]; simp [he, hne]⟩ (by omega) ?_
      (refine Wk.forget ?_; simp [Le, LeE, LeH, get, envIds, hpIds, KeepH, D.ids, idsL, AO.ids, setL, base, encQ]; done)
    cases h2 : decide (x.2 = y.2)
    · simp only [go_sem, encQ_len, Int.toNat_natCast, hg, hi0, h1, h2, hw]
      have hne : ¬ x = y := fun e => (of_decide_eq_false h2) (by rw [e])
      refine ih (i + 1) _ ⟨hlt, by rw [List.take_add_one, hx]; simp [he, hne]⟩ (by omega) ?_
      (refine Wk.forget ?_; simp [Le, LeE, LeH, get, envIds, hpIds, KeepH, D.ids, idsL, AO.ids, setL, base, encQ]; done)
    · simp only [go_sem, encQ_len, Int.toNat_natCast, hg, hi0, h1, h2, hw]
      rw [hat (Prod.ext (of_decide_eq_true h1).symm (of_decide_eq_true h2).symm)]
  · simp only [go_sem]
    have : i = l.length := by simp at h2; omega
    subst this
    rw [List.take_length] at he
    simp [idxP, he]
theorem containsP_own (l : List (Int × Int)) (x : Int × Int) (hl : l.length ≤ 10000000) :
    ACalls Try.prog 62 [.ref 1000000 0 l.length l.length, .agg [.p (.int .i64 x.1), .p (.int .i64 x.2)]] [(1000000, .arr 67 2 (encQ l))] fun h r => h = [(1000000, .arr 67 2 (encQ l))] ∧ r = .p (.bool (decide (x ∈ l))) := by
  refine ACalls_X Try.func62 rfl enters62 (by simp [Try.f62]) ?_
  simp only [go_sem, encQ_len]
  refine Cc_own rfl rfl ?_
  simp only [go_sem, callD_eq]
  refine Kc_of (indexP_own l x hl) ?_
  rintro h' r ⟨rfl, rfl⟩
  simp only [go_sem, idxP_nonneg]
end Go.Am
end
section
namespace Go.Am
open Go Go.Proofs
set_option maxRecDepth 100000
set_option linter.unusedVariables false
set_option linter.unusedSimpArgs false
def Bdr.robotV (b : Bdr) (d : Dc) : Int × Bdr :=
  match getS b.ms (d.names.getD 0 []) with
  | none => (9, b)
  | some i => if (b.sp.getD i.toNat spr0).depot = false then (9, b) else if decide (d.nums.getD 0 0 < 1) = true then (12, b) else if decide ((b.sp.getD i.toNat spr0).slots < d.nums.getD 0 0) = true then (12, b) else
      if (i, d.nums.getD 0 0) ∈ b.pl then (13, b) else if b.pl.length = 8 then (14, b) else (0, { b with pl := b.pl ++ [(i, d.nums.getD 0 0)] })
theorem robot_ok (b : Bdr) (k : Nat) (d : Dc) (h1 : 1 ≤ d.names.length) (h2 : 1 ≤ d.nums.length) (hb : b.pl.length ≤ 8) (hm : ∀ x i, getS b.ms x = some i → ∃ n : Nat, i = (n : Int) ∧ n < b.sp.length) :
    ACalls Try.prog 37 [.ptr 1000000 0, d.d] (b.h k) fun h r => ∃ k', h = (b.robotV d).2.h k' ∧ r = .p (.int .i64 (b.robotV d).1) := by
  have e1 := encS_get d.names 0 (by omega)
  have e2 := encI_get d.nums 0 (by omega)
  refine ACalls_X Try.func37 rfl enters37 (by simp [Try.f37]) ?_
  rw [Bdr.h_eq b k]
  unfold Dc.d
  simp only [go_sem]
  refine X_any [(1000000, .box b.box), (3, .box [.p (.int .i64 d.word), .p (.int .i64 d.line), .p (.sl (encS d.names)), .p (.sl (encI d.nums))]), (1000005, .mp (mpS b.ms))] mixed (p := [(0, 0), (1, 0), (2, 0), (3, 0), (4, 0), (5, 0), (6, 0), (7, 0), (8, 0), (9, 0), (10, 0), (11, 0), (12, 0), (13, 0)]) (by kernel_rfl) (by simp [LeH, get, Bdr.box]) ?_
  unfold Bdr.box
  cases c1 : getS b.ms (d.names.getD 0 []) with
  | none =>
    simp only [go_sem, encS_len, e1, KK.fit, mfit_S, mget_S, lookD, c1, Option.isSome_none, encI_len, e2]
    refine ⟨by omega, by omega, ?_⟩
    have hv : b.robotV d = (9, b) := by unfold Bdr.robotV; rw [c1]
    rw [hv]
    exact ⟨k, rfl, rfl⟩
  | some i =>
    obtain ⟨n, rfl, hn⟩ := hm _ i c1
    have hn0 : (0 : Int) ≤ (n : Int) ∧ (n : Int) < (b.sp.length : Int) := by omega
    have hg := encP_get b.sp n hn
    cases c2 : (b.sp.getD n spr0).depot
    · simp only [go_sem, encS_len, e1, KK.fit, mfit_S, mget_S, lookD, c1, encI_len, e2, encP_len, hn0, Int.toNat_natCast, hg, c2]
      refine ⟨by omega, by omega, ?_⟩
      have hv : b.robotV d = (9, b) := by unfold Bdr.robotV; rw [c1]; simp only [Int.toNat_natCast, c2, if_true]
      rw [hv]
      exact ⟨k, rfl, rfl⟩
    cases c3 : decide (d.nums.getD 0 0 < 1)
    rotate_left
    · simp only [go_sem, encS_len, e1, KK.fit, mfit_S, mget_S, lookD, c1, encI_len, e2, encP_len, hn0, Int.toNat_natCast, hg, c2, c3]
      refine ⟨by omega, by omega, ?_⟩
      have hv : b.robotV d = (12, b) := by unfold Bdr.robotV; rw [c1]; simp only [Int.toNat_natCast, c2, c3, Bool.true_eq_false, if_false, if_true]
      rw [hv]
      exact ⟨k, rfl, rfl⟩
    cases c4 : decide ((b.sp.getD n spr0).slots < d.nums.getD 0 0)
    rotate_left
    · simp only [go_sem, encS_len, e1, KK.fit, mfit_S, mget_S, lookD, c1, encI_len, e2, encP_len, hn0, Int.toNat_natCast, hg, c2, c3, c4]
      refine ⟨by omega, by omega, ?_⟩
      have hv : b.robotV d = (12, b) := by unfold Bdr.robotV; rw [c1]; simp only [Int.toNat_natCast, c2, c3, c4, Bool.true_eq_false, Bool.false_eq_true, if_false, if_true]
      rw [hv]
      exact ⟨k, rfl, rfl⟩
    simp only [go_sem, encS_len, e1, KK.fit, mfit_S, mget_S, lookD, c1, encI_len, e2, encP_len, hn0, Int.toNat_natCast, hg, c2, c3, c4, encQ_len]
    refine ⟨by omega, by omega, ?_⟩
    refine Cc_own rfl rfl ?_
    simp only [go_sem, callD_eq]
    refine Kc_of (containsP_own b.pl ((n : Int), d.nums.getD 0 0) (by omega)) ?_
    rintro h' r ⟨rfl, rfl⟩
    cases c5 : decide (((n : Int), d.nums.getD 0 0) ∈ b.pl)
    rotate_left
    · simp only [go_sem, c5]
      have hv : b.robotV d = (13, b) := by unfold Bdr.robotV; rw [c1]; simp only [Int.toNat_natCast, c2, c3, c4, Bool.true_eq_false, Bool.false_eq_true, if_false, if_true, if_pos (of_decide_eq_true c5)]
      rw [hv]
      exact ⟨k, rfl, rfl⟩
    have c5' := of_decide_eq_false c5
    cases c6 : decide ((b.pl.length : Int) = 8)
    rotate_left
    · simp only [go_sem, c5, c6, encQ_len]
      have c6' : b.pl.length = 8 := by have := of_decide_eq_true c6; omega
      have hv : b.robotV d = (14, b) := by unfold Bdr.robotV; rw [c1]; simp only [Int.toNat_natCast, c2, c3, c4, Bool.true_eq_false, Bool.false_eq_true, if_false, if_true, if_neg c5', if_pos c6']
      rw [hv]
      exact ⟨k, rfl, rfl⟩
    have c6' : ¬ b.pl.length = 8 := by have := of_decide_eq_false c6; omega
    simp only [go_sem, c5, c6, encQ_len]
    refine ⟨⟨wid1 _ _ rfl, by omega, by omega⟩, ?_⟩
    have hv : b.robotV d = (0, { b with pl := b.pl ++ [((n : Int), d.nums.getD 0 0)] }) := by unfold Bdr.robotV; rw [c1]; simp only [Int.toNat_natCast, c2, c3, c4, Bool.true_eq_false, Bool.false_eq_true, if_false, if_neg c5', if_neg c6']
    rw [hv]
    refine ⟨k, ?_, rfl⟩
    simp only [Bdr.h_eq, encQ_snoc, encQ_len, List.length_append, List.length_cons, List.length_nil, Nat.zero_add]
end Go.Am
end
section
namespace Go.Am
open Go Go.Proofs
set_option maxRecDepth 100000
set_option linter.unusedVariables false
set_option linter.unusedSimpArgs false
def findI {α : Type} (p : α → Bool) : Nat → List α → Int
  | _, [] => -1
  | k, x :: r => if p x then (k : Int) else findI p (k + 1) r
theorem findI_drop {α : Type} (p : α → Bool) (l : List α) : ∀ (i : Nat), i ≤ l.length → (∀ j x, j < i → l[j]? = some x → p x = false) → findI p 0 l = findI p i (l.drop i) := by
  intro i
  induction i with
  | zero => intro _ _; rfl
  | succ i ih =>
    intro h1 h2
    rw [ih (by omega) (fun j x hj hx => h2 j x (by omega) hx), List.drop_eq_getElem_cons (by omega)]
    have := h2 i l[i] (by omega) (List.getElem?_eq_getElem (by omega))
    simp [findI, this]
theorem indexS_ok (l : List (List UInt8)) (hl : l.length ≤ 140737488355328) (g : FuncId) (p : List UInt8 → Bool) (hp : ∀ x, ACalls Try.prog g [.p (.str x)] [] fun h r => h = [] ∧ r = .p (.bool (p x))) :
    ACalls Try.prog 81 [.p (.sl (encS l)), .fn g []] [] fun h r => h = [] ∧ r = .p (.int .i64 (findI p 0 l)) := by
  refine ACalls_X Try.func81 rfl enters81 (by simp [Try.f81]) ?_
  simp only [go_sem, encS_len]
  refine X_loop_inv (fun i => ⟨[(0, .p (.sl (encS l))), (1, .fn g []), (7, .p (.int .i64 (l.length : Nat))), (8, .p (.int .i64 (i : Nat)))], [], 19⟩) (fun i => i ≤ l.length ∧ ∀ j x, j < i → l[j]? = some x → p x = false) (fun i => l.length - i) 0 ⟨Nat.zero_le _, by simp⟩
    (Wk.forget (by simp [Le, LeE, LeH, get, envIds, hpIds, KeepH, D.ids, idsL])) ?_
  rintro i n ⟨hi, he⟩ ih
  simp only [go_sem]
  refine Cn_split (fun h2 => ?_) (fun h2 => ?_)
  · have hlt : i < l.length := by simp at h2; omega
    simp only [go_sem, encS_len, Int.toNat_natCast, encS_get l i hlt]
    have hw := wrap_succ i (by omega)
    have hx : l[i]? = some (l.getD i []) := by simp [List.getD, hlt]
    have hdrop : l.drop i = l.getD i [] :: l.drop (i + 1) := by rw [List.drop_eq_getElem_cons hlt]; simp [List.getD, hlt]
    refine ⟨by omega, Cc_of (hp _) ?_⟩
    rintro h' r ⟨rfl, rfl⟩
    simp only [go_sem]
    cases hpx : p (l.getD i [])
    · simp only [go_sem, hw]
      refine ih (i + 1) _ ⟨by omega, fun j x hj hjx => ?_⟩ (by omega) (Wk.forget (by simp [Le, LeE, LeH, get, envIds, hpIds, KeepH, D.ids, idsL]))
      rcases Nat.lt_succ_iff_lt_or_eq.1 hj with hj | rfl
      · exact he j x hj hjx
      · rw [hx] at hjx; cases hjx; exact hpx
    · simp only [go_sem]
      rw [findI_drop p l i hi he, hdrop]
      simp only [findI, hpx, if_true, and_self]
  · simp only [go_sem]
    have : i = l.length := by simp at h2; omega
    rw [findI_drop p l i hi he, this, List.drop_length]
    simp [findI]
theorem indexI_ok (l : List Int) (hl : l.length ≤ 140737488355328) (g : FuncId) (p : Int → Bool) (hp : ∀ x, ACalls Try.prog g [.p (.int .i64 x)] [] fun h r => h = [] ∧ r = .p (.bool (p x))) :
    ACalls Try.prog 82 [.p (.sl (encI l)), .fn g []] [] fun h r => h = [] ∧ r = .p (.int .i64 (findI p 0 l)) := by
  refine ACalls_X Try.func82 rfl enters82 (by simp [Try.f82]) ?_
  simp only [go_sem, encI_len]
  refine X_loop_inv (fun i => ⟨[(0, .p (.sl (encI l))), (1, .fn g []), (7, .p (.int .i64 (l.length : Nat))), (8, .p (.int .i64 (i : Nat)))], [], 19⟩) (fun i => i ≤ l.length ∧ ∀ j x, j < i → l[j]? = some x → p x = false) (fun i => l.length - i) 0 ⟨Nat.zero_le _, by simp⟩
    (Wk.forget (by simp [Le, LeE, LeH, get, envIds, hpIds, KeepH, D.ids, idsL])) ?_
  rintro i n ⟨hi, he⟩ ih
  simp only [go_sem]
  refine Cn_split (fun h2 => ?_) (fun h2 => ?_)
  · have hlt : i < l.length := by simp at h2; omega
    simp only [go_sem, encI_len, Int.toNat_natCast, encI_get l i hlt]
    have hw := wrap_succ i (by omega)
    have hx : l[i]? = some (l.getD i 0) := by simp [List.getD, hlt]
    have hdrop : l.drop i = l.getD i 0 :: l.drop (i + 1) := by rw [List.drop_eq_getElem_cons hlt]; simp [List.getD, hlt]
    refine ⟨by omega, Cc_of (hp _) ?_⟩
    rintro h' r ⟨rfl, rfl⟩
    simp only [go_sem]
    cases hpx : p (l.getD i 0)
    · simp only [go_sem, hw]
      refine ih (i + 1) _ ⟨by omega, fun j x hj hjx => ?_⟩ (by omega) (Wk.forget (by simp [Le, LeE, LeH, get, envIds, hpIds, KeepH, D.ids, idsL]))
      rcases Nat.lt_succ_iff_lt_or_eq.1 hj with hj | rfl
      · exact he j x hj hjx
      · rw [hx] at hjx; cases hjx; exact hpx
    · simp only [go_sem]
      rw [findI_drop p l i hi he, hdrop]
      simp only [findI, hpx, if_true, and_self]
  · simp only [go_sem]
    have : i = l.length := by simp at h2; omega
    rw [findI_drop p l i hi he, this, List.drop_length]
    simp [findI]
theorem containsS_ok (l : List (List UInt8)) (hl : l.length ≤ 140737488355328) (g : FuncId) (p : List UInt8 → Bool) (hp : ∀ x, ACalls Try.prog g [.p (.str x)] [] fun h r => h = [] ∧ r = .p (.bool (p x))) :
    ACalls Try.prog 56 [.p (.sl (encS l)), .fn g []] [] fun h r => h = [] ∧ r = .p (.bool (decide (0 ≤ findI p 0 l))) := by
  refine ACalls_X Try.func56 rfl enters56 (by simp [Try.f56]) ?_
  simp only [go_sem]
  refine Cc_of (indexS_ok l hl g p hp) ?_
  rintro h' r ⟨rfl, rfl⟩
  simp only [go_sem]
theorem containsI_ok (l : List Int) (hl : l.length ≤ 140737488355328) (g : FuncId) (p : Int → Bool) (hp : ∀ x, ACalls Try.prog g [.p (.int .i64 x)] [] fun h r => h = [] ∧ r = .p (.bool (p x))) :
    ACalls Try.prog 58 [.p (.sl (encI l)), .fn g []] [] fun h r => h = [] ∧ r = .p (.bool (decide (0 ≤ findI p 0 l))) := by
  refine ACalls_X Try.func58 rfl enters58 (by simp [Try.f58]) ?_
  simp only [go_sem]
  refine Cc_of (indexI_ok l hl g p hp) ?_
  rintro h' r ⟨rfl, rfl⟩
  simp only [go_sem]
end Go.Am
end
section
namespace Go.Am
open Go Go.Proofs
set_option maxRecDepth 100000
set_option linter.unusedVariables false
set_option linter.unusedSimpArgs false
theorem valid1_ok (x : List UInt8) : ACalls Try.prog 57 [.p (.str x)] [] fun h r => h = [] ∧ r = .p (.bool (!nameB x)) := by
  refine ACalls_X Try.func57 rfl enters57 (by simp [Try.f57]) ?_
  simp only [go_sem]
  refine Cc_of (name1_ok x) ?_
  rintro h' r ⟨rfl, rfl⟩
  simp only [go_sem]
theorem valid2_ok (n : Int) : ACalls Try.prog 59 [.p (.int .i64 n)] [] fun h r => h = [] ∧ r = .p (.bool (decide (n < -9999) || decide (9999 < n))) := by
  refine ACalls_X Try.func59 rfl enters59 (by simp [Try.f59]) ?_
  by_cases h1 : n < -9999 <;> by_cases h2 : 9999 < n <;>
  · simp only [go_sem, h1, h2]
    try simp [h1, h2]
def shapeV (w : Int) : Int × Int := if w = 1 then (1, 2) else if w = 2 then (2, 0) else if w = 3 ∨ w = 4 then (3, 1) else if w = 5 then (1, 1) else (0, 4)
end Go.Am
end
section
namespace Go.Am
open Go Go.Proofs
set_option maxRecDepth 100000
set_option linter.unusedVariables false
set_option linter.unusedSimpArgs false
structure Fm where
  word : List UInt8
  fields : List UInt8
  more : Bool
def formL : List Fm := [⟨[], [], false⟩, ⟨[98, 108, 111, 99, 107], [78, 35, 35], false⟩, ⟨[108, 97, 110, 101], [78, 78], true⟩, ⟨[115, 116, 97, 116, 105, 111, 110], [78, 78, 78, 35], false⟩,
  ⟨[100, 101, 112, 111, 116], [78, 78, 78, 35], false⟩, ⟨[114, 111, 98, 111, 116], [78, 35], false⟩, ⟨[99, 111, 110, 102, 105, 103], [35, 35, 35, 35], false⟩]
def fmC (f : Fm) : List Pd := [.str f.word, .str f.fields, .bool f.more]
theorem forms_ok : ACalls Try.prog 55 [] [] fun h r => h = [] ∧ r = .agg ((formL.flatMap fmC).map .p) := by
  refine ACalls_X Try.func55 rfl enters55 (by simp [Try.f55]) ?_
  simp only [go_sem]
  refine end_own ?_
  simp only [go_sem]
  rfl
end Go.Am
end
section
namespace Go.Am
open Go Go.Proofs
set_option maxRecDepth 100000
set_option linter.unusedVariables false
set_option linter.unusedSimpArgs false
end Go.Am
end
section
namespace Go.Am
open Go Go.Proofs
set_option maxRecDepth 100000
set_option linter.unusedVariables false
set_option linter.unusedSimpArgs false
def formJ (j : Nat) : Fm := formL.getD j ⟨[], [], false⟩
theorem form_cells (j : Nat) (h : j < 7) : ((formL.flatMap fmC).drop (j * 3)).take 3 = [.str (formJ j).word, .str (formJ j).fields, .bool (formJ j).more] := by
  rcases j with _ | _ | _ | _ | _ | _ | _ | j
  all_goals first | rfl | omega
theorem form_sig (j : Nat) (h : j < 7) (h0 : 1 ≤ j) : ((formJ j).fields.length : Int) = (shapeV j).1 + (shapeV j).2 ∧ (∀ i : Nat, i < (formJ j).fields.length → ((((formJ j).fields.getD i 0).toNat : Int) = 35 ↔ (shapeV j).1 ≤ (i : Int))) ∧ (formJ j).more = decide ((j : Int) = 2) ∧ 0 ≤ (shapeV j).1 ∧ 0 ≤ (shapeV j).2 := by
  rcases j with _ | _ | _ | _ | _ | _ | _ | j
  · omega
  all_goals first | omega | skip
  all_goals
    refine ⟨by decide, ?_, by decide, by decide, by decide⟩
    intro i hi
    rcases i with _ | _ | _ | _ | i
    all_goals first | decide | (exfalso; simp [formJ, formL] at hi; done) | (exfalso; simp [formJ, formL] at hi; omega)
theorem formC_len : (formL.flatMap fmC).length = 21 := by decide
end Go.Am
end
section
namespace Go.Am
open Go Go.Proofs
set_option maxRecDepth 100000
set_option linter.unusedVariables false
set_option linter.unusedSimpArgs false
def validV (d : Dc) : Bool :=
  decide (1 ≤ d.word ∧ d.word ≤ 6) && (decide ((d.nums.length : Int) = (shapeV d.word).2) && ((decide ((d.names.length : Int) = (shapeV d.word).1) || (decide ((shapeV d.word).1 < (d.names.length : Int)) && decide (d.word = 2))) &&
    (d.names.all nameB && d.nums.all fun n => !(decide (n < -9999) || decide (9999 < n)))))
theorem findI_nonneg {α : Type} (p : α → Bool) : ∀ (l : List α) (k : Nat), 0 ≤ findI p k l ↔ l.any p = true
  | [], k => by simp [findI]
  | x :: r, k => by
    simp only [findI, List.any_cons]
    by_cases h : p x = true
    · rw [if_pos h]; simp [h]
    · rw [if_neg h, findI_nonneg p r (k + 1)]; simp [h]
theorem findI_any {α : Type} (p : α → Bool) (l : List α) (k : Nat) : decide (0 ≤ findI p k l) = l.any p := by
  rw [Bool.eq_iff_iff, decide_eq_true_eq, findI_nonneg]
theorem form_ascii (j : Nat) (h : j < 7) : ∀ b ∈ (formJ j).fields, b.toNat < 128 := by
  rcases j with _ | _ | _ | _ | _ | _ | _ | j
  all_goals first | decide | omega
theorem valid_ok (d : Dc) (hd : d.names.length ≤ 10000000 ∧ d.nums.length ≤ 10000000) : ACalls Try.prog 34 [d.d] [] fun h r => h = [] ∧ r = .p (.bool (validV d)) := by
  obtain ⟨word, line, names, nums⟩ := d
  simp only at hd
  refine ACalls_X Try.func34 rfl enters34 (by simp [Try.f34]) ?_
  by_cases h1 : word < 1
  · have hv : validV ⟨word, line, names, nums⟩ = false := by simp [validV]; intro h; omega
    simp only [go_sem, Dc.d, h1, hv]
  by_cases h2 : 6 < word
  · have hv : validV ⟨word, line, names, nums⟩ = false := by simp [validV]; intro h; omega
    simp only [go_sem, Dc.d, h1, h2, hv]
  obtain ⟨j, rfl⟩ : ∃ j : Nat, word = (j : Int) := ⟨word.toNat, by omega⟩
  have hj : j < 7 := by omega
  have hfc := form_cells j hj
  have hfl : j * 3 + 3 ≤ (formL.flatMap fmC).length := by rw [formC_len]; omega
  obtain ⟨hs1, hs2, hs3, hs4, hs5⟩ := form_sig j hj (by omega)
  have hasc := form_ascii j hj
  have hsl : (formJ j).fields.length ≤ 4 := by
    rcases j with _ | _ | _ | _ | _ | _ | _ | j
    all_goals first | decide | omega
  have hj0 : (0 : Int) ≤ (j : Int) ∧ (j : Int) < 7 := by omega
  have hdt : List.take 3 (List.drop (j * 3) (List.map D.p (formL.flatMap fmC))) = [.p (.str (formJ j).word), .p (.str (formJ j).fields), .p (.bool (formJ j).more)] := by
    rw [← List.map_drop, ← List.map_take, hfc]; rfl
  simp only [go_sem, Dc.d, h1, h2]
  refine X_any0 mixed (p := [(1, 0), (2, 0), (4, 1), (0, 2), (3, 0), (5, 2), (6, 0), (7, 0)]) (by kernel_rfl) (by simp [LeH, get]) ?_
  simp only [go_sem]
  refine Gh_of forms_ok ?_
  rintro h' r ⟨rfl, rfl⟩
  have hv : validV ⟨j, line, names, nums⟩ = (decide ((nums.length : Int) = (shapeV j).2) && ((decide ((names.length : Int) = (shapeV j).1) || (decide ((shapeV j).1 < (names.length : Int)) && decide ((j : Int) = 2))) &&
    (names.all nameB && nums.all fun n => !(decide (n < -9999) || decide (9999 < n))))) := by
    have : decide ((1 : Int) ≤ j ∧ (j : Int) ≤ 6) = true := by simp; omega
    simp only [validV, this, Bool.true_and]
  rw [hv, ← hs3]
  clear hv hs3
  generalize hfe : (formJ j).fields = sig at *
  generalize hfo : (formJ j).more = more at *
  generalize hA : (shapeV j).1 = a at *
  generalize hB : (shapeV j).2 = b at *
  simp only [go_sem, Int.toNat_natCast, hfl, hdt, hj0]
  refine Af_range rfl rfl ti9 rfl rfl ?_
  simp only [go_sem]
  refine X_loop_inv (fun i => ⟨[(1, .ptr 1 0), (3, .ptr 3 0), (22, .ptr 22 0), (4, .p (.int .i64 (min i a.toNat : Nat))), (5, .p (.int .i64 (i - a.toNat : Nat)))],
      [(1, .box [.p (.int .i64 j), .p (.int .i64 line), .p (.sl (encS names)), .p (.sl (encI nums))]), (3, .box [.p (.str (formJ j).word), .p (.str sig), .p (.bool more)]), (22, .iter sig i)], 67⟩)
    (fun i => i ≤ sig.length) (fun i => sig.length - i) 0 (Nat.zero_le _) (Wk.forget (by simp [Le, LeE, LeH, get, envIds, hpIds, KeepH, D.ids, idsL, AO.ids, setL, base, Nat.zero_min, Nat.zero_sub])) ?_
  rintro i n hi ih
  simp only [go_sem]
  refine Af_next rfl rfl rfl hasc (fun hlt => ?_) (fun hge => ?_)
  · have h35 := hs2 i hlt
    have hgi : sig.getD i 0 = sig[i] := by simp [List.getD, hlt]
    rw [hgi] at h35
    simp only [go_sem]
    by_cases hc : (sig[i].toNat : Int) = 35
    · have hai := h35.1 hc
      have hw : IntKind.i64.wrap (((i - a.toNat : Nat) : Int) + 1) = ((i + 1 - a.toNat : Nat) : Int) := by rw [wrap_i64_id] <;> omega
      simp only [go_sem, hc, hw]
      refine ih (i + 1) _ hlt (by omega) ?_
      have e1 : min (i + 1) a.toNat = min i a.toNat := by omega
      rw [e1]
      (refine Wk.forget ?_; simp [Le, LeE, LeH, get, envIds, hpIds, KeepH, D.ids, idsL, AO.ids, setL, base]; done)
    · have hai : ¬ a ≤ (i : Int) := fun h => hc (h35.2 h)
      have hw : IntKind.i64.wrap (((min i a.toNat : Nat) : Int) + 1) = ((min (i + 1) a.toNat : Nat) : Int) := by rw [wrap_i64_id] <;> omega
      simp only [go_sem, hc, hw]
      refine ih (i + 1) _ hlt (by omega) ?_
      have e1 : i + 1 - a.toNat = i - a.toNat := by omega
      rw [e1]
      (refine Wk.forget ?_; simp [Le, LeE, LeH, get, envIds, hpIds, KeepH, D.ids, idsL, AO.ids, setL, base]; done)
  · have hil : i = sig.length := by omega
    have e4 : ((min i a.toNat : Nat) : Int) = a := by omega
    have e5 : ((i - a.toNat : Nat) : Int) = b := by omega
    simp only [go_sem, encI_len, encS_len, e4, e5]
    clear ih
    have k1 := containsS_ok names (by omega) 57 (fun x => !nameB x) valid1_ok
    have k2 := containsI_ok nums (by omega) 59 (fun n => decide (n < -9999) || decide (9999 < n)) valid2_ok
    rw [findI_any] at k1 k2
    cases c1 : decide ((nums.length : Int) = b)
    · simp only [go_sem, c1]
      try simp
    cases c2 : decide ((names.length : Int) = a)
    · cases c3 : decide (a < (names.length : Int))
      · simp only [go_sem, c1, encI_len, encS_len, e4, e5, c2, c3]
        try simp
      cases more
      · simp only [go_sem, c1, encI_len, encS_len, e4, e5, c2, c3]
        try simp
      simp only [go_sem, c1, encI_len, encS_len, e4, e5, c2, c3]
      refine Cc_of k1 ?_
      rintro h' r ⟨rfl, rfl⟩
      cases c4 : names.any fun x => !nameB x
      · have c4' : names.all nameB = true := by
          rw [List.all_eq_not_any_not, c4]; rfl
        simp only [go_sem, c4]
        refine Cc_of k2 ?_
        rintro h' r ⟨rfl, rfl⟩
        simp only [go_sem]
        rw [c4', List.all_eq_not_any_not]
        try simp
      · have c4' : names.all nameB = false := by
          rw [List.all_eq_not_any_not, c4]; rfl
        simp only [go_sem, c4]
        rw [c4']
        try simp
    · simp only [go_sem, c1, encI_len, encS_len, e4, e5, c2]
      refine Cc_of k1 ?_
      rintro h' r ⟨rfl, rfl⟩
      cases c4 : names.any fun x => !nameB x
      · have c4' : names.all nameB = true := by
          rw [List.all_eq_not_any_not, c4]; rfl
        simp only [go_sem, c4]
        refine Cc_of k2 ?_
        rintro h' r ⟨rfl, rfl⟩
        simp only [go_sem]
        rw [c4', List.all_eq_not_any_not]
        try simp
      · have c4' : names.all nameB = false := by
          rw [List.all_eq_not_any_not, c4]; rfl
        simp only [go_sem, c4]
        rw [c4']
        try simp
end Go.Am
end
section
namespace Go.Am
open Go Go.Proofs
set_option maxRecDepth 100000
set_option linter.unusedVariables false
set_option linter.unusedSimpArgs false
def Bdr.lanesV : Bdr → List (List UInt8) → Int × Bdr
  | b, x :: y :: r => if (b.laneV x y).1 = 0 then Bdr.lanesV (b.laneV x y).2 (y :: r) else b.laneV x y
  | b, _ => (0, b)
def Bdr.addV (b : Bdr) (d : Dc) : Int × Bdr :=
  if validV d = false then (20, b) else if decide (d.word = 1) = true then b.blockV d else if decide (d.word = 2) = true then b.lanesV d.names else
    if decide (d.word = 5) = true then b.robotV d else if decide (d.word = 6) = true then b.configV d else b.spurV d
structure BI (b : Bdr) : Prop where
  nb : b.bl.length ≤ 24
  nn : b.nx.length = b.bl.length
  mb : ∀ x i, getS b.mb x = some i → ∃ n : Nat, i = (n : Int) ∧ n < b.bl.length
  ms : ∀ x i, getS b.ms x = some i → ∃ n : Nat, i = (n : Int) ∧ n < b.sp.length
  row : ∀ i, (b.nx.getD i []).length ≤ 4
  ns : b.sp.length ≤ 6
  nba : b.ba.length = b.sp.length
  sl : 0 ≤ b.sl ∧ b.sl ≤ 4 * b.sp.length
  np : b.pl.length ≤ 8
  bas : ∀ x ∈ b.ba, 0 ≤ x ∧ x ≤ 24
  sps : ∀ s ∈ b.sp, 1 ≤ s.slots ∧ s.slots ≤ 4
  pls : ∀ p ∈ b.pl, (∃ n : Nat, p.1 = (n : Int) ∧ n < b.sp.length) ∧ 1 ≤ p.2 ∧ p.2 ≤ 4
theorem getS_cons (p : List UInt8 × Int) (r : List (List UInt8 × Int)) (x : List UInt8) : getS (p :: r) x = if p.1 = x then some p.2 else getS r x := by
  unfold getS
  rw [List.find?_cons]
  by_cases h : p.1 = x
  · simp [h]
  · rw [if_neg h, beq_eq_false_iff_ne.2 h]
theorem putS_cons (p : List UInt8 × Int) (r : List (List UInt8 × Int)) (k : List UInt8) (v : Int) : putS (p :: r) k v = if p.1 = k then (k, v) :: r else p :: putS r k v := rfl
theorem getS_putS (m : List (List UInt8 × Int)) (k : List UInt8) (v : Int) (x : List UInt8) : getS (putS m k v) x = if x = k then some v else getS m x := by
  induction m with
  | nil =>
    have : putS [] k v = [(k, v)] := rfl
    rw [this, getS_cons]
    by_cases h : x = k
    · rw [if_pos h, if_pos h.symm]
    · rw [if_neg h, if_neg (Ne.symm h)]
  | cons p r ih =>
    rw [putS_cons, getS_cons]
    by_cases h : p.1 = k
    · rw [if_pos h, getS_cons]
      by_cases h2 : x = k
      · rw [if_pos h2, if_pos h2.symm]
      · rw [if_neg h2, if_neg (Ne.symm h2), if_neg (fun e => h2 (by rw [← e, ← h]))]
    · rw [if_neg h, getS_cons, ih]
      by_cases h2 : p.1 = x
      · rw [if_pos h2, if_pos h2, if_neg (fun e => h (by rw [h2, e]))]
      · rw [if_neg h2, if_neg h2]
theorem BI.block {b : Bdr} (h : BI b) (d : Dc) : BI (b.blockV d).2 := by
  unfold Bdr.blockV
  split
  · exact h
  · split
    · exact h
    · rename_i h1 h2
      have hl : b.bl.length < 24 := by have := h.nb; omega
      refine ⟨by simp; omega, by simp [h.nn], fun x i hx => ?_, h.ms, fun i => ?_, h.ns, h.nba, h.sl, h.np, h.bas, h.sps, h.pls⟩
      · simp only [getS_putS] at hx
        split at hx
        · cases hx; exact ⟨_, rfl, by simp⟩
        · obtain ⟨n, h3, h4⟩ := h.mb x i hx
          exact ⟨n, h3, by simp; omega⟩
      · simp only [List.getD, List.getElem?_append]
        split
        · have := h.row i; simpa [List.getD] using this
        · rcases hj : i - b.nx.length with _ | j <;> simp
theorem BI.lane {b : Bdr} (h : BI b) (x y : List UInt8) : BI (b.laneV x y).2 := by
  unfold Bdr.laneV
  split
  · rename_i i j h1 h2
    split
    · exact h
    · split
      · exact h
      · split
        · exact h
        · rename_i h3 h4 h5
          obtain ⟨n, rfl, hn⟩ := h.mb x i h1
          refine ⟨h.nb, by simp [h.nn], h.mb, h.ms, fun k => ?_, h.ns, h.nba, h.sl, h.np, h.bas, h.sps, h.pls⟩
          simp only [Int.toNat_natCast] at h5 ⊢
          have hr := h.row n
          have hrk := h.row k
          simp only [List.getD, List.getElem?_set]
          split
          · rename_i e
            subst e
            split
            · simp only [Option.getD_some, List.length_append, List.length_cons, List.length_nil]
              simp only [List.getD] at h5 hr
              omega
            · simp
          · simpa [List.getD] using hrk
  · exact h
theorem BI.lanes : ∀ {l : List (List UInt8)} {b : Bdr}, BI b → BI (b.lanesV l).2
  | [], b, h => h
  | [x], b, h => h
  | x :: y :: r, b, h => by
    simp only [Bdr.lanesV]
    split
    · exact BI.lanes (h.lane x y)
    · exact h.lane x y
theorem BI.spur {b : Bdr} (h : BI b) (d : Dc) : BI (b.spurV d).2 := by
  unfold Bdr.spurV
  split
  · exact h
  · split
    · split
      · exact h
      · split
        · exact h
        · split
          · exact h
          · rename_i h1 h2 h3
            simp only [decide_eq_true_eq] at h1 h2
            have h4 := h.ns
            have h5 := h.sl
            refine ⟨h.nb, h.nn, h.mb, fun x i hx => ?_, h.row, by simp; omega, by simp [h.nba], by simp only [List.length_append, List.length_cons, List.length_nil]; omega, h.np, fun x hx => ?_, fun s hs => ?_, fun p hp => ?_⟩
            simp only [getS_putS] at hx
            split at hx
            · cases hx; exact ⟨_, rfl, by simp⟩
            · obtain ⟨n, h6, h7⟩ := h.ms x i hx
              exact ⟨n, h6, by simp; omega⟩
            · rcases List.mem_append.1 hx with hx | hx
              · exact h.bas x hx
              · simp only [List.mem_singleton] at hx
                subst hx
                omega
            · rcases List.mem_append.1 hs with hs | hs
              · exact h.sps s hs
              · simp only [List.mem_singleton] at hs
                subst hs
                simp only
                omega
            · obtain ⟨⟨n, h6, h7⟩, h8⟩ := h.pls p hp
              exact ⟨⟨n, h6, by simp; omega⟩, h8⟩
    · exact h
theorem BI.robot {b : Bdr} (h : BI b) (d : Dc) : BI (b.robotV d).2 := by
  unfold Bdr.robotV
  split
  · exact h
  · rename_i i hi
    split
    · exact h
    split
    · exact h
    split
    · exact h
    split
    · exact h
    split
    · exact h
    rename_i h1 h2 h3 h4 h5
    obtain ⟨n, rfl, hn⟩ := h.ms _ _ hi
    simp only [decide_eq_true_eq, Int.toNat_natCast] at h2 h3
    have hs := h.sps (b.sp.getD n spr0) (getD_mem b.sp n spr0 hn)
    refine ⟨h.nb, h.nn, h.mb, h.ms, h.row, h.ns, h.nba, h.sl, ?_, h.bas, h.sps, fun p hp => ?_⟩
    · have := h.np
      simp
      omega
    · rcases List.mem_append.1 hp with hp | hp
      · exact h.pls p hp
      · simp only [List.mem_singleton] at hp
        subst hp
        exact ⟨⟨n, rfl, hn⟩, by omega, by omega⟩
theorem BI.config {b : Bdr} (h : BI b) (d : Dc) : BI (b.configV d).2 := by
  unfold Bdr.configV
  repeat' split
  all_goals first | exact h | skip
  exact ⟨h.nb, h.nn, h.mb, h.ms, h.row, h.ns, h.nba, h.sl, h.np, h.bas, h.sps, h.pls⟩
theorem BI.add {b : Bdr} (h : BI b) (d : Dc) : BI (b.addV d).2 := by
  unfold Bdr.addV
  repeat' split
  · exact h
  · exact h.block d
  · exact h.lanes
  · exact h.robot d
  · exact h.config d
  · exact h.spur d
theorem valid_shape {d : Dc} (h : validV d = true) : (1 ≤ d.word ∧ d.word ≤ 6) ∧ (d.nums.length : Int) = (shapeV d.word).2 ∧ (shapeV d.word).1 ≤ (d.names.length : Int) := by
  simp only [validV, Bool.and_eq_true, decide_eq_true_eq, Bool.or_eq_true] at h
  obtain ⟨h1, h2, h3, _⟩ := h
  exact ⟨h1, h2, by omega⟩
end Go.Am
end

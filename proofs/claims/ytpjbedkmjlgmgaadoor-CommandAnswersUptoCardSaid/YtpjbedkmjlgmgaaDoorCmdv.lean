/- Commands and answers, in plain words. -/
import Derived.Test.YtpjbedkmjlgmgaaDoorJoiv
namespace Go.Am
open Go Go.Proofs
set_option maxRecDepth 100000
set_option linter.unusedVariables false
set_option linter.unusedSimpArgs false
structure Cd where
  kind : Int
  a : List UInt8
  b : List UInt8
  n : Int
  deriving DecidableEq
def cd0 : Cd := ⟨0, [], [], 0⟩
def Cd.cs (x : Cd) : List D := [.p (.int .i64 x.kind), .p (.str x.a), .p (.str x.b), .p (.int .i64 x.n)]
structure Fk where
  word : List UInt8
  na : Nat
  nu : Nat
def formK : List Fk := [⟨[], 0, 0⟩, ⟨[116, 97, 115, 107], 2, 0⟩, ⟨[99, 97, 110, 99, 101, 108], 0, 1⟩, ⟨[99, 108, 111, 115, 101], 1, 0⟩, ⟨[111, 112, 101, 110], 1, 0⟩, ⟨[97, 100, 100], 1, 0⟩, ⟨[114, 101, 109, 111, 118, 101], 0, 1⟩, ⟨[115, 116, 97, 116, 117, 115], 0, 1⟩, ⟨[98, 108, 111, 99, 107], 1, 0⟩, ⟨[102, 108, 101, 101, 116], 0, 0⟩, ⟨[113, 117, 101, 117, 101], 0, 0⟩]
def fkC (f : Fk) : List Pd := [.str f.word, .int .i64 (f.na : Nat), .int .i64 (f.nu : Nat)]
def fK (j : Nat) : Fk := formK.getD j ⟨[], 0, 0⟩
def wordK (w : List UInt8) : Nat := (findI (fun f : Fk => decide (f.word = w)) 0 formK.tail + 1).toNat
theorem findI_range {α : Type} (p : α → Bool) : ∀ (l : List α) (k : Nat), findI p k l = -1 ∨ ∃ i x, l[i]? = some x ∧ p x = true ∧ findI p k l = ((k + i : Nat) : Int)
  | [], k => .inl rfl
  | x :: r, k => by
    simp only [findI]
    split
    · rename_i h; exact .inr ⟨0, x, rfl, h, rfl⟩
    · rcases findI_range p r (k + 1) with h | ⟨i, y, h1, h2, h3⟩
      · exact .inl h
      · exact .inr ⟨i + 1, y, by simpa using h1, h2, by rw [h3]; omega⟩
theorem findI_any {α : Type} (p : α → Bool) : ∀ (l : List α) (k : Nat), decide (0 ≤ findI p k l) = l.any p
  | [], k => rfl
  | x :: r, k => by
    by_cases h : p x = true
    · simp [findI, h]
    · have := findI_any p r (k + 1)
      simp [findI, h] at this ⊢
      exact this
theorem wordK_rng (w : List UInt8) : findI (fun f : Fk => decide (f.word = w)) 0 formK.tail + 1 = (wordK w : Int) ∧ wordK w < 11 ∧ (wordK w ≠ 0 → (fK (wordK w)).word = w) := by
  unfold wordK
  rcases findI_range (fun f : Fk => decide (f.word = w)) formK.tail 0 with h | ⟨i, x, h1, h2, h3⟩
  · rw [h]; exact ⟨rfl, by decide, fun h => (h rfl).elim⟩
  · have hl : formK.tail.length = 10 := rfl
    have hi := (List.getElem?_eq_some_iff.1 h1).1
    rw [h3]
    have e : (((0 + i : Nat) : Int) + 1).toNat = i + 1 := by omega
    refine ⟨by omega, by omega, fun _ => ?_⟩
    rw [e]
    have h4 : formK[i + 1]? = some x := by rw [← h1]; cases hf : formK <;> simp
    simp only [fK, List.getD, h4, Option.getD_some]
    exact of_decide_eq_true h2
theorem fK_small (j : Nat) : (fK j).na ≤ 2 ∧ (fK j).nu ≤ 1 ∧ ((fK j).nu ≠ 0 → (fK j).na = 0) := by
  by_cases h : j < 11
  · have : ∀ j : Fin 11, (fK j).na ≤ 2 ∧ (fK j).nu ≤ 1 ∧ ((fK j).nu ≠ 0 → (fK j).na = 0) := by decide
    exact this ⟨j, h⟩
  · have : fK j = ⟨[], 0, 0⟩ := by
      unfold fK
      rw [List.getD_eq_getElem?_getD, List.getElem?_eq_none (by show 11 ≤ j; omega)]
      rfl
    rw [this]; decide
theorem formK_cells (j : Nat) (h : j < 11) : ((formK.flatMap fkC).drop (j * 3)).take 3 = [.str (fK j).word, .int .i64 ((fK j).na : Nat), .int .i64 ((fK j).nu : Nat)] := by
  rcases j with _ | _ | _ | _ | _ | _ | _ | _ | _ | _ | _ | j
  all_goals first | rfl | omega
theorem formK_len : (formK.flatMap fkC).length = 33 := by decide
theorem wordK_form (j : Nat) (h : 1 ≤ j) (h2 : j < 11) : wordK (fK j).word = j := by
  have : ∀ j : Fin 11, 1 ≤ j.val → wordK (fK j).word = j := by decide
  exact this ⟨j, h2⟩ h
def fld1 (fs : List (List UInt8)) : List UInt8 := fs.getD 1 []
def fld2 (fs : List (List UInt8)) : List UInt8 := fs.getD 2 []
/-- The command of fields: P25.1. -/
def cmdG (j na nu : Nat) (fs : List (List UInt8)) : Cd :=
  if j = 0 ∨ fs.length ≠ 1 + na + nu ∨ ((fs.take (1 + na)).drop 1).any (fun s => !nameB s) = true then cd0
  else if nu = 0 then ⟨j, if 0 < na then fld1 fs else [], if 1 < na then fld2 fs else [], 0⟩
  else if (numV (fld1 fs)).2 = true ∧ 0 ≤ (numV (fld1 fs)).1 then ⟨j, if 0 < na then fld1 fs else [], if 1 < na then fld2 fs else [], (numV (fld1 fs)).1⟩ else cd0
def cmdF (fs : List (List UInt8)) : Cd := cmdG (wordK (fs.getD 0 [])) (fK (wordK (fs.getD 0 []))).na (fK (wordK (fs.getD 0 []))).nu fs
def cmdV (t : List UInt8) : Cd := if (fLines t).2.2 = 0 ∧ (fLines t).1.length = 1 then cmdF ((fLines t).1.getD 0 ln0).fs else cd0
theorem scanL_ne : ∀ (S : List (List UInt8)) (k : Nat) (acc : List Ln), (∀ x ∈ acc, x.fs ≠ []) → ∀ x ∈ (scanL S k acc).1, x.fs ≠ []
  | [], k, acc, h => by simpa [scanL] using h
  | t :: r, k, acc, h => by
    simp only [scanL]
    split
    · refine scanL_ne r (k + 1) _ fun x hx => ?_
      split at hx
      · rename_i hp
        simp only [List.mem_append, List.mem_singleton] at hx
        rcases hx with hx | rfl
        · exact h x hx
        · exact List.length_pos_iff.1 hp
      · exact h x hx
    · simp
theorem fLines_ne (t : List UInt8) : ∀ x ∈ (fLines t).1, x.fs ≠ [] := by
  unfold fLines
  split
  · simp
  · exact scanL_ne _ _ _ (by simp)
/-- The words of a command. -/
def cmdT (c : Cd) : List (List UInt8) := (fK c.kind.toNat).word :: (([c.a, c.b].take (fK c.kind.toNat).na) ++ (if (fK c.kind.toNat).nu = 0 then [] else [digV c.n]))
def txtC (c : Cd) : List UInt8 := wordsV (cmdT c)
def fmtC (c : Cd) : List UInt8 × Int := if (1 ≤ c.kind ∧ c.kind ≤ 10) ∧ cmdV (txtC c) = c then (txtC c, 0) else ([], 20)
theorem numOf_rng' (neg : Bool) (l : List UInt8) (h : (numOf neg l).2 = true) : -9999 ≤ (numOf neg l).1 ∧ (numOf neg l).1 ≤ 9999 := by
  cases l with
  | nil => simp [numOf] at h
  | cons b r =>
    simp only [numOf] at h ⊢
    by_cases h1 : 4 < r.length + 1 ∨ ((b.toNat : Int) = 48 ∧ (neg = true ∨ 1 < r.length + 1))
    · rw [if_pos h1] at h; cases h
    · rw [if_neg h1] at h ⊢
      by_cases h2 : digsB (b :: r) = true
      · rw [if_pos h2]
        have h3 : ∀ c ∈ b :: r, 48 ≤ c.toNat ∧ c.toNat ≤ 57 := fun c hc => by
          have := List.all_eq_true.1 h2 c hc
          simp [digB] at this; omega
        have h4 : (b :: r).length ≤ 4 := by simp only [List.length_cons]; omega
        have h5 := valD_le (b :: r) h3 (b :: r).length (Nat.le_refl _) h4
        have h6 := p10 (b :: r).length h4
        rw [List.take_length] at h5
        simp only
        split <;> omega
      · rw [if_neg h2] at h; cases h
theorem numV_rng' (s : List UInt8) (h : (numV s).2 = true) : -9999 ≤ (numV s).1 ∧ (numV s).1 ≤ 9999 := by
  unfold numV at h ⊢
  split
  · rename_i h1; rw [if_pos h1] at h; exact numOf_rng' _ _ h
  · rename_i h1; rw [if_neg h1] at h; exact numOf_rng' _ _ h
/-- What a command that was read is like. -/
theorem cmdG_inv {j na nu : Nat} {fs : List (List UInt8)} {c : Cd} (hna : na ≤ 2) (hnu : nu ≠ 0 → na = 0 ∧ nu = 1) (h : cmdG j na nu fs = c) (hk : c.kind ≠ 0) :
    c.kind = j ∧ (∀ s ∈ [c.a, c.b].take na, nameB s = true) ∧ (nu = 0 → c.n = 0) ∧ (nu ≠ 0 → 0 ≤ c.n ∧ c.n ≤ 9999) ∧ (na = 0 → c.a = []) ∧ (na ≤ 1 → c.b = []) := by
  unfold cmdG at h
  split at h
  · subst h; exact (hk rfl).elim
  rename_i h0
  simp only [not_or, Decidable.not_not, Bool.not_eq_true] at h0
  obtain ⟨h1, h2, h3⟩ := h0
  have names : ∀ s ∈ [if 0 < na then fld1 fs else [], if 1 < na then fld2 fs else []].take na, nameB s = true := by
    intro s hs
    have hall : ∀ s ∈ (fs.take (1 + na)).drop 1, nameB s = true := fun s hs => by
      have := List.any_eq_false.1 h3 s hs
      simpa using this
    have get : ∀ i, i < na → fs.getD (i + 1) [] ∈ (fs.take (1 + na)).drop 1 := by
      intro i hi
      have hl : i < ((fs.take (1 + na)).drop 1).length := by simp; omega
      have e : ((fs.take (1 + na)).drop 1)[i] = fs.getD (i + 1) [] := by
        simp [List.getD, show i + 1 < fs.length by omega, Nat.add_comm 1 i]
      rw [← e]; exact List.getElem_mem hl
    rcases na with _ | _ | _ | na
    · simp at hs
    · simp only [List.take_succ_cons, List.take_zero, List.mem_singleton] at hs
      subst hs
      exact hall _ (get 0 (by omega))
    · simp only [List.take_succ_cons, List.take_zero, List.mem_cons, List.not_mem_nil, or_false] at hs
      rcases hs with rfl | rfl
      · exact hall _ (get 0 (by omega))
      · exact hall _ (get 1 (by omega))
    · omega
  split at h
  · rename_i h4
    subst h
    exact ⟨rfl, names, fun _ => rfl, fun h => (h h4).elim, fun h => if_neg (by omega), fun h => if_neg (by omega)⟩
  · rename_i h4
    split at h
    · rename_i h5
      subst h
      exact ⟨rfl, names, fun h => (h4 h).elim, fun _ => ⟨h5.2, (numV_rng' _ h5.1).2⟩, fun h => if_neg (by omega), fun h => if_neg (by omega)⟩
    · subst h; exact (hk rfl).elim
theorem cmdG_zero {j na nu : Nat} {fs : List (List UInt8)} (h : (cmdG j na nu fs).kind = 0) : cmdG j na nu fs = cd0 := by
  unfold cmdG at h ⊢
  split
  · rfl
  · rename_i h0
    rw [if_neg h0] at h
    have hj : (j : Int) ≠ 0 := by
      simp only [not_or] at h0
      have := h0.1
      omega
    split
    · rename_i h1; rw [if_pos h1] at h; exact (hj h).elim
    · rename_i h1
      rw [if_neg h1] at h
      split
      · rename_i h2; rw [if_pos h2] at h; exact (hj h).elim
      · rfl
theorem cmdV_zero {t : List UInt8} (h : (cmdV t).kind = 0) : cmdV t = cd0 := by
  unfold cmdV at h ⊢
  split
  · rename_i h1; rw [if_pos h1] at h; exact cmdG_zero h
  · rfl
theorem cmdV_inv {t : List UInt8} {c : Cd} (h : cmdV t = c) (hk : c.kind ≠ 0) : ∃ j : Nat, c.kind = j ∧ 1 ≤ j ∧ j < 11 ∧ (∀ s ∈ [c.a, c.b].take (fK j).na, nameB s = true) ∧ ((fK j).nu = 0 → c.n = 0) ∧ ((fK j).nu ≠ 0 → 0 ≤ c.n ∧ c.n ≤ 9999) ∧ ((fK j).na = 0 → c.a = []) ∧ ((fK j).na ≤ 1 → c.b = []) := by
  unfold cmdV at h
  split at h
  · unfold cmdF at h
    generalize ((fLines t).1.getD 0 ln0).fs = fs at h
    obtain ⟨h1, h2, h3⟩ := wordK_rng (fs.getD 0 [])
    have hs := fK_small (wordK (fs.getD 0 []))
    have := cmdG_inv hs.1 (fun h => ⟨hs.2.2 h, by omega⟩) h hk
    refine ⟨_, this.1, ?_, h2, this.2⟩
    have := this.1
    omega
  · subst h; exact (hk rfl).elim
theorem nameB_prop {s : List UInt8} (h : nameB s = true) : propB s = true := by
  cases s with
  | nil => cases h
  | cons b r =>
    simp only [nameB, Bool.and_eq_true, decide_eq_true_eq, List.all_eq_true] at h
    refine propB_iff.2 ⟨by simp, h.1.1, fun c hc => ?_⟩
    have := h.2 c hc
    have hlt := c.toNat_lt
    simp only [chB, letterB, Bool.or_eq_true, Bool.and_eq_true, decide_eq_true_eq] at this
    simp only [allB, Bool.and_eq_true, decide_eq_true_eq, Bool.not_eq_true', decide_eq_false_iff_not]
    omega
theorem digV_prop (n : Int) (h0 : 0 ≤ n) (h1 : n ≤ 9999) : propB (digV n) = true := by
  have hl := digV_len n (by omega) (by omega)
  refine propB_iff.2 ⟨hl.2, by omega, fun c hc => ?_⟩
  have hd : digV n = digN n.toNat := by unfold digV; rw [if_neg (by omega)]
  rw [hd] at hc
  have := (digN_val 5 n.toNat (by omega)).2.1
  have := List.all_eq_true.1 this c hc
  simp only [digB, Bool.and_eq_true, decide_eq_true_eq] at this
  simp only [allB, Bool.and_eq_true, decide_eq_true_eq, Bool.not_eq_true', decide_eq_false_iff_not]
  omega
theorem fK_prop (j : Nat) (h : 1 ≤ j) (h2 : j < 11) : propB (fK j).word = true := by
  have : ∀ j : Fin 11, 1 ≤ j.val → propB (fK j).word = true := by decide
  exact this ⟨j, h2⟩ h
/-- A command that was read is read back from its words. -/
theorem cmd_back {t : List UInt8} {c : Cd} (h : cmdV t = c) (hk : c.kind ≠ 0) : (∀ s ∈ cmdT c, propB s = true) ∧ (cmdT c).length ≤ 4 ∧ cmdF (cmdT c) = c ∧ 1 ≤ c.kind ∧ c.kind ≤ 10 := by
  obtain ⟨j, h1, h2, h3, h4, h5, h6, h7, h8⟩ := cmdV_inv h hk
  obtain ⟨kind, a, b, n⟩ := c
  simp only at h1 h4 h5 h6 h7 h8
  subst h1
  have hw := wordK_form j h2 h3
  have hs := fK_small j
  have hp := fK_prop j h2 h3
  simp only [cmdT, Int.toNat_natCast]
  refine ⟨fun s hm => ?_, ?_, ?_, by omega, by omega⟩
  · simp only [List.mem_cons, List.mem_append] at hm
    rcases hm with rfl | hm | hm
    · exact hp
    · exact nameB_prop (h4 s hm)
    · split at hm
      · cases hm
      · rename_i h9
        have := h6 h9
        simp only [List.mem_singleton] at hm
        subst hm
        exact digV_prop n this.1 this.2
  · simp only [List.length_cons, List.length_append, List.length_take, List.length_nil]
    split <;> simp <;> omega
  · simp only [cmdF, List.getD_cons_zero, hw]
    generalize (fK j).word = w at *
    generalize (fK j).na = na at *
    generalize (fK j).nu = nu at *
    clear hw hp
    rcases na with _ | _ | _ | na
    · have ha := h7 rfl
      have hb := h8 (by omega)
      subst ha hb
      by_cases hn : nu = 0
      · have := h5 hn
        subst hn this
        have : ¬ j = 0 := by omega
        simp [cmdG, this]
      · have hn1 : nu = 1 := by omega
        subst hn1
        obtain ⟨h9, h10⟩ := h6 (by omega)
        have hnv := numV_digV n (by omega) (by omega)
        rw [if_pos (by omega)] at hnv
        have : ¬ j = 0 := by omega
        simp [cmdG, this, fld1, hnv, h9]
    · have hn : nu = 0 := by have := hs.2.2; omega
      have hb := h8 (by omega)
      have hn0 := h5 hn
      subst hn hb hn0
      have h9 := h4 a (by simp)
      have : ¬ j = 0 := by omega
      simp [cmdG, this, fld1, h9]
    · have hn : nu = 0 := by have := hs.2.2; omega
      have hn0 := h5 hn
      subst hn hn0
      have h9 := h4 a (by simp)
      have h10 := h4 b (by simp)
      have : ¬ j = 0 := by omega
      simp [cmdG, this, fld1, fld2, h9, h10]
    · omega
theorem fLines_one (fs : List (List UInt8)) (hne : fs ≠ []) (h : ∀ s ∈ fs, propB s = true) (hl : (wordsV fs).length ≤ 6000) : fLines (wordsV fs) = ([⟨1, fs⟩], 0, 0) := by
  unfold fLines
  rw [if_neg (by omega), splitL_no 10 _ (words_no h).1]
  have hp : 0 < fs.length := List.length_pos_iff.2 hne
  simp [scanL, fld_words fs hne h, hp]
theorem fld_restT (u : List UInt8) : ∀ (r : List (List UInt8)) (s : List UInt8) (acc : List (List UInt8)), (∀ y ∈ r, propB y = true) → fld ((r.flatMap fun y => 32 :: y) ++ 32 :: 32 :: 35 :: u) (some s) acc = (acc ++ s :: r, 0)
  | [], s, acc, _ => by
    have h0 : ((32 : UInt8).toNat : Int) = 32 := rfl
    have h1 : ((35 : UInt8).toNat : Int) = 35 := rfl
    simp [fld, h0, h1]
  | y :: r, s, acc, h => by
    have h0 : ((32 : UInt8).toNat : Int) = 32 := rfl
    simp only [List.flatMap_cons, List.cons_append, List.append_assoc, fld, h0]
    rw [if_neg (by decide), if_pos (Or.inl trivial), fld_word _ _ _ (h y (by simp)), fld_restT u r y _ (fun x hx => h x (by simp [hx]))]
    simp
theorem fLines_ext (fs : List (List UInt8)) (hne : fs ≠ []) (h : ∀ s ∈ fs, propB s = true) (hl : (wordsV fs).length ≤ 1000) :
    fLines ([10, 32, 9] ++ wordsV fs ++ [32, 32, 35, 32] ++ wordsV fs ++ [10, 10]) = ([⟨2, fs⟩], 0, 0) := by
  have hno := (words_no h).1
  unfold fLines
  rw [if_neg (by simp; omega)]
  have e : [10, 32, 9] ++ wordsV fs ++ [32, 32, 35, 32] ++ wordsV fs ++ [10, 10] = [] ++ 10 :: ((32 :: 9 :: (wordsV fs ++ 32 :: 32 :: 35 :: 32 :: wordsV fs)) ++ 10 :: [10]) := by simp
  rw [e, splitL_seg 10 [] _ (by simp), splitL_seg 10 _ [10] (by simp [hno])]
  have e2 : splitL 10 [10] = [[], []] := rfl
  have hp : 0 < fs.length := List.length_pos_iff.2 hne
  have h0 : ((32 : UInt8).toNat : Int) = 32 := rfl
  have h9 : ((9 : UInt8).toNat : Int) = 9 := rfl
  have hf : fld (32 :: 9 :: (wordsV fs ++ 32 :: 32 :: 35 :: 32 :: wordsV fs)) none [] = (fs, 0) := by
    cases fs with
    | nil => exact (hne rfl).elim
    | cons x r =>
      simp only [fld, h0, h9]
      rw [if_neg (by decide), if_pos (Or.inl trivial), if_neg (by decide), if_pos (Or.inr trivial)]
      simp only [wordsV, List.append_assoc]
      rw [fld_word _ _ _ (h x (by simp)), fld_restT _ r x _ (fun y hy => h y (by simp [hy]))]
      simp
  have hfe : fld [] none [] = (([] : List (List UInt8)), 0) := rfl
  rw [e2]
  simp only [scanL, hf, hfe, hp, if_true, List.length_nil, Nat.lt_irrefl, if_false, List.nil_append]
  rfl
theorem cmdT_len {c : Cd} (h : ∀ s ∈ cmdT c, propB s = true) (hl : (cmdT c).length ≤ 4) : (wordsV (cmdT c)).length ≤ 1000 := by
  have key : ∀ r : List (List UInt8), (∀ s ∈ r, propB s = true) → szF r ≤ 13 * r.length := by
    intro r
    induction r with
    | nil => intro _; simp [szF]
    | cons s r ih => intro h; have h1 := ih (fun y hy => h y (by simp [hy])); have h2 := (propB_iff.1 (h s (by simp))).2.1; simp only [szF, List.length_cons]; omega
  have h1 := key _ h
  have h2 := wordsV_len (cmdT c) (by simp [cmdT])
  omega
theorem cmd_text {t : List UInt8} {c : Cd} (h : cmdV t = c) (hk : c.kind ≠ 0) : cmdV (txtC c) = c ∧ cmdV ([10, 32, 9] ++ txtC c ++ [32, 32, 35, 32] ++ txtC c ++ [10, 10]) = c ∧ fmtC c = (txtC c, 0) ∧ (txtC c).length ≤ 1000 := by
  obtain ⟨h1, h2, h3, h4, h5⟩ := cmd_back h hk
  have hl := cmdT_len h1 h2
  have hne : cmdT c ≠ [] := by simp [cmdT]
  have ha : cmdV (txtC c) = c := by
    unfold cmdV txtC
    rw [fLines_one _ hne h1 (by omega)]
    simpa using h3
  refine ⟨ha, ?_, ?_, hl⟩
  · unfold cmdV txtC
    rw [fLines_ext _ hne h1 hl]
    simpa using h3
  · unfold fmtC
    rw [if_pos ⟨⟨h4, h5⟩, ha⟩]
/-- Answers: P25.3. -/
def ansW : List (List UInt8) := [[98, 97, 100], [111, 107], [113, 117, 101, 117, 101, 45, 102, 117, 108, 108], [117, 110, 107, 110, 111, 119, 110], [115, 116, 97, 116, 105, 111, 110, 45, 99, 108, 111, 115, 101, 100], [114, 101, 102, 117, 115, 101, 100], [99, 108, 111, 115, 101, 100], [102, 108, 101, 101, 116, 45, 97, 116, 45, 99, 97, 112], [100, 101, 112, 111, 116, 45, 102, 117, 108, 108], [108, 97, 115, 116], [111, 99, 99, 117, 112, 105, 101, 100], [111, 118, 101, 114], [105, 115]]
def ansT (k : Nat) (n : Int) : List UInt8 := ansW.getD k [] ++ (if k = 1 ∨ k = 12 then 32 :: digV n else [])
def ansV (k n : Int) : List UInt8 × Int := if k < 0 ∨ 13 ≤ k ∨ n < 0 ∨ 9999 < n then ([], 19) else (ansT k.toNat n, 0)
theorem digV_inj {m n : Int} (h0 : 0 ≤ m ∧ m ≤ 9999) (h1 : 0 ≤ n ∧ n ≤ 9999) (h : digV m = digV n) : m = n := by
  have a := numV_digV m (by omega) (by omega)
  have b := numV_digV n (by omega) (by omega)
  rw [if_pos (by omega)] at a b
  rw [h, b] at a
  simpa using a.symm
theorem ansW_sp (k : Nat) (h : k < 13) : (32 : UInt8) ∉ ansW.getD k [] := by
  have : ∀ k : Fin 13, (32 : UInt8) ∉ ansW.getD k.val [] := by decide
  exact this ⟨k, h⟩
theorem ansW_inj (j k : Nat) (hj : j < 13) (hk : k < 13) (h : ansW.getD j [] = ansW.getD k []) : j = k := by
  have : ∀ j k : Fin 13, ansW.getD j.val [] = ansW.getD k.val [] → j = k := by decide
  exact congrArg Fin.val (this ⟨j, hj⟩ ⟨k, hk⟩ h)
theorem ansT_inj (j k : Nat) (m n : Int) (hj : j < 13) (hk : k < 13) (hm : 0 ≤ m ∧ m ≤ 9999) (hn : 0 ≤ n ∧ n ≤ 9999) : ansT j m = ansT k n ↔ j = k ∧ (¬ (j = 1 ∨ j = 12) ∨ m = n) := by
  have hsj := ansW_sp j hj
  have hsk := ansW_sp k hk
  unfold ansT
  constructor
  · intro h
    by_cases h1 : j = 1 ∨ j = 12
    · by_cases h2 : k = 1 ∨ k = 12
      · rw [if_pos h1, if_pos h2] at h
        have hl : (ansW.getD j []).length = (ansW.getD k []).length := by
          rcases h1 with rfl | rfl <;> rcases h2 with rfl | rfl <;> rfl
        obtain ⟨h3, h4⟩ := List.append_inj h hl
        simp only [List.cons.injEq, true_and] at h4
        exact ⟨ansW_inj j k hj hk h3, .inr (digV_inj hm hn h4)⟩
      · rw [if_pos h1, if_neg h2, List.append_nil] at h
        exact (hsk (by rw [← h]; simp)).elim
    · by_cases h2 : k = 1 ∨ k = 12
      · rw [if_neg h1, if_pos h2, List.append_nil] at h
        exact (hsj (by rw [h]; simp)).elim
      · rw [if_neg h1, if_neg h2, List.append_nil, List.append_nil] at h
        exact ⟨ansW_inj j k hj hk h, .inl h1⟩
  · rintro ⟨rfl, h | rfl⟩
    · rw [if_neg h, if_neg h]
    · rfl
end Go.Am

/- Join: P1.3, in plain words; what Lines reads of such a text, and of one with comments and further blanks. -/
import Derived.Test.YtpjbedkmjlgmgaaDoorFind
namespace Go.Am
open Go Go.Proofs
set_option maxRecDepth 100000
set_option linter.unusedVariables false
set_option linter.unusedSimpArgs false
def propB (s : List UInt8) : Bool := decide (s ≠ []) && (decide (s.length ≤ 12) && s.all fun b => allB b.toNat)
def formB : Int → List Ln → Bool
  | _, [] => true
  | last, x :: r => decide (last < x.num) && (decide (x.fs ≠ []) && (x.fs.all propB && formB x.num r))
def wordsV : List (List UInt8) → List UInt8
  | [] => []
  | x :: r => x ++ r.flatMap fun y => 32 :: y
def textL : Nat → List Ln → List UInt8
  | _, [] => []
  | k, x :: r => List.replicate (x.num.toNat - k) 10 ++ (wordsV x.fs ++ 10 :: textL (x.num.toNat + 1) r)
def joinV (l : List Ln) : List UInt8 × Int := if formB 0 l then (if 6000 < (textL 1 l).length then ([], 1) else (textL 1 l, 0)) else ([], 20)
def szF : List (List UInt8) → Nat
  | [] => 0
  | s :: r => s.length + 1 + szF r
def szL : List Ln → Nat
  | [] => 0
  | x :: r => szF x.fs + szL r
def lastL : Int → List Ln → Int
  | k, [] => k
  | _, x :: r => lastL x.num r
theorem formB_cons {last : Int} {x : Ln} {r : List Ln} : formB last (x :: r) = true ↔ last < x.num ∧ x.fs ≠ [] ∧ (∀ s ∈ x.fs, propB s = true) ∧ formB x.num r = true := by
  simp only [formB, Bool.and_eq_true, decide_eq_true_eq, List.all_eq_true]
theorem propB_iff {s : List UInt8} : propB s = true ↔ s ≠ [] ∧ s.length ≤ 12 ∧ ∀ b ∈ s, allB b.toNat = true := by
  simp only [propB, Bool.and_eq_true, decide_eq_true_eq, List.all_eq_true]
theorem flat_len (r : List (List UInt8)) : (r.flatMap fun y => 32 :: y).length = szF r := by
  induction r with
  | nil => rfl
  | cons x r ih => simp [szF, ih]; omega
theorem wordsV_len : ∀ fs : List (List UInt8), fs ≠ [] → (wordsV fs).length + 1 = szF fs
  | [], h => (h rfl).elim
  | x :: r, _ => by simp only [wordsV, szF, List.length_append, flat_len]; omega
theorem szF_pos : ∀ fs : List (List UInt8), fs ≠ [] → 1 ≤ szF fs
  | [], h => (h rfl).elim
  | x :: r, _ => by simp only [szF]; omega
theorem textL_len : ∀ (l : List Ln) (k : Nat), formB k l = true → ((textL (k + 1) l).length : Int) + k + l.length = szL l + lastL k l ∧ (l.length : Int) ≤ szL l ∧ (k : Int) ≤ lastL k l
  | [], k, _ => by simp [textL, szL, lastL]
  | x :: r, k, h => by
    obtain ⟨h1, h2, h3, h4⟩ := formB_cons.1 h
    obtain ⟨n, hn⟩ : ∃ n : Nat, x.num = (n : Int) := ⟨x.num.toNat, by omega⟩
    rw [hn] at h4 h1
    obtain ⟨h5, h6, h7⟩ := textL_len r n h4
    have h8 := wordsV_len x.fs h2
    have h9 := szF_pos x.fs h2
    simp only [textL, szL, lastL, hn, List.length_append, List.length_cons, List.length_replicate, Int.toNat_natCast]
    omega
theorem join_test (l : List Ln) (h : formB 0 l = true) : (6000 < (textL 1 l).length) ↔ ((6000 : Int) - min (lastL 0 l) 6001 < (szL l : Int) - l.length) := by
  obtain ⟨h1, h2, h3⟩ := textL_len l 0 h
  simp only [Nat.zero_add] at h1
  have h4 : ((0 : Nat) : Int) = 0 := rfl
  rw [h4] at h1 h3
  omega
theorem allB_ne {b : UInt8} (h : allB b.toNat = true) : ¬ (b.toNat : Int) = 35 ∧ ¬ (b.toNat : Int) = 32 ∧ ¬ (b.toNat : Int) = 9 ∧ b ≠ 10 ∧ b ≠ 35 := by
  unfold allB at h
  simp only [Bool.and_eq_true, decide_eq_true_eq, Bool.not_eq_true', decide_eq_false_iff_not] at h
  refine ⟨by omega, by omega, by omega, ?_, ?_⟩
  · rintro rfl; simp at h
  · rintro rfl; simp at h
theorem fld_in : ∀ (s t cur : List UInt8) (acc : List (List UInt8)), (∀ b ∈ s, allB b.toNat = true) → cur.length + s.length ≤ 12 → fld (s ++ t) (some cur) acc = fld t (some (cur ++ s)) acc
  | [], t, cur, acc, _, _ => by simp
  | b :: r, t, cur, acc, h, hl => by
    have hb := h b (by simp)
    obtain ⟨h1, h2, h3, _, _⟩ := allB_ne hb
    simp only [List.length_cons] at hl
    simp only [List.cons_append, fld, h1, h2, h3, hb, if_true, if_false, or_self, Option.getD_some]
    rw [if_neg (by omega), fld_in r t (cur ++ [b]) acc (fun x hx => h x (by simp [hx])) (by simp; omega)]
    simp
theorem fld_word (s t : List UInt8) (acc : List (List UInt8)) (h : propB s = true) : fld (s ++ t) none acc = fld t (some s) acc := by
  obtain ⟨h1, h2, h3⟩ := propB_iff.1 h
  cases s with
  | nil => exact (h1 rfl).elim
  | cons b r =>
    obtain ⟨h4, h5, h6, _, _⟩ := allB_ne (h3 b (by simp))
    rw [List.cons_append, fld_start _ _ _ h4 h5 h6, ← List.cons_append, fld_in _ _ _ _ h3 (by simpa using h2)]
    simp
theorem fld_rest : ∀ (r : List (List UInt8)) (s : List UInt8) (acc : List (List UInt8)), (∀ y ∈ r, propB y = true) → fld (r.flatMap fun y => 32 :: y) (some s) acc = (acc ++ s :: r, 0)
  | [], s, acc, _ => by simp [fld]
  | y :: r, s, acc, h => by
    have h0 : ((32 : UInt8).toNat : Int) = 32 := rfl
    simp only [List.flatMap_cons, List.cons_append, fld, h0]
    rw [if_neg (by decide), if_pos (Or.inl trivial), fld_word _ _ _ (h y (by simp)), fld_rest r y _ (fun x hx => h x (by simp [hx]))]
    simp
theorem fld_words : ∀ fs : List (List UInt8), fs ≠ [] → (∀ s ∈ fs, propB s = true) → fld (wordsV fs) none [] = (fs, 0)
  | [], h, _ => (h rfl).elim
  | x :: r, _, h => by
    simp only [wordsV]
    rw [fld_word _ _ _ (h x (by simp)), fld_rest r x [] (fun y hy => h y (by simp [hy]))]
    simp
theorem splitL_no (c : UInt8) : ∀ w : List UInt8, c ∉ w → splitL c w = [w]
  | [], _ => rfl
  | b :: r, h => by
    have h1 : b ≠ c := fun e => h (by simp [e])
    simp only [splitL, if_neg h1, splitL_no c r (fun e => h (by simp [e]))]
theorem splitL_seg (c : UInt8) (w t : List UInt8) (h : c ∉ w) : splitL c (w ++ c :: t) = w :: splitL c t := by
  rw [splitL_app, splitL_no c w h]; rfl
theorem mem_wordsV {b : UInt8} : ∀ {fs : List (List UInt8)}, b ∈ wordsV fs → b = 32 ∨ ∃ s ∈ fs, b ∈ s
  | [], h => by simp [wordsV] at h
  | x :: r, h => by
    simp only [wordsV, List.mem_append, List.mem_flatMap, List.mem_cons] at h
    rcases h with h | ⟨y, hy, h | h⟩
    · exact .inr ⟨x, by simp, h⟩
    · exact .inl h
    · exact .inr ⟨y, by simp [hy], h⟩
theorem words_no {fs : List (List UInt8)} (h : ∀ s ∈ fs, propB s = true) : (10 : UInt8) ∉ wordsV fs ∧ (35 : UInt8) ∉ wordsV fs := by
  constructor <;> intro hm
  all_goals
    rcases mem_wordsV hm with h1 | ⟨s, hs, h1⟩
    · cases h1
    · have h2 := allB_ne ((propB_iff.1 (h s hs)).2.2 _ h1)
      first | exact h2.2.2.2.1 rfl | exact h2.2.2.2.2 rfl
theorem scan_blank : ∀ (n : Nat) (t : List UInt8) (k : Nat) (acc : List Ln), scanL (splitL 10 (List.replicate n 10 ++ t)) k acc = scanL (splitL 10 t) (k + n) acc
  | 0, t, k, acc => by simp
  | n + 1, t, k, acc => by
    simp only [List.replicate_succ, List.cons_append, splitL, if_true, scanL, fld, List.length_nil, Nat.lt_irrefl, if_false]
    rw [scan_blank n t (k + 1) acc, Nat.add_assoc, Nat.add_comm 1 n]
theorem scan_text : ∀ (l : List Ln) (k : Nat) (acc : List Ln), formB k l = true → scanL (splitL 10 (textL (k + 1) l)) (k + 1) acc = (acc ++ l, 0, 0)
  | [], k, acc, _ => by simp [textL, splitL, scanL, fld]
  | x :: r, k, acc, h => by
    obtain ⟨h1, h2, h3, h4⟩ := formB_cons.1 h
    obtain ⟨num, fs⟩ := x
    obtain ⟨n, rfl⟩ : ∃ n : Nat, num = (n : Int) := ⟨num.toNat, by simp only at h1; omega⟩
    simp only at h1 h2 h3 h4
    simp only [textL, Int.toNat_natCast]
    rw [scan_blank, splitL_seg 10 _ _ (words_no h3).1, show k + 1 + (n - (k + 1)) = n by omega]
    simp only [scanL, fld_words fs h2 h3, if_true]
    rw [if_pos (by cases fs with | nil => exact (h2 rfl).elim | cons a b => simp), scan_text r n _ h4]
    simp
theorem fLines_text (l : List Ln) (h : formB 0 l = true) (hl : (textL 1 l).length ≤ 6000) : fLines (textL 1 l) = (l, 0, 0) := by
  unfold fLines
  rw [if_neg (by omega)]
  have := scan_text l 0 [] h
  simpa using this
def sfxV (cm : List UInt8) : List UInt8 := 32 :: 9 :: 35 :: 32 :: cm.filter (fun b => b ≠ 10)
def modT (cm : List UInt8) : List UInt8 → List UInt8
  | [] => []
  | b :: r => (if b = 10 then sfxV cm else if b = 32 then [9] else []) ++ b :: modT cm r
theorem sfx_no (cm : List UInt8) : (10 : UInt8) ∉ sfxV cm := by
  simp [sfxV]
theorem fld_sfx (cm : List UInt8) (c : Option (List UInt8)) (acc : List (List UInt8)) : fld (sfxV cm) c acc = (acc ++ c.toList, 0) := by
  have h0 : ((32 : UInt8).toNat : Int) = 32 := rfl
  have h1 : ((9 : UInt8).toNat : Int) = 9 := rfl
  have h2 : ((35 : UInt8).toNat : Int) = 35 := rfl
  simp [sfxV, fld, h0, h1, h2]
theorem fld_end (c : Option (List UInt8)) (acc : List (List UInt8)) : fld [] c acc = (acc ++ c.toList, 0) := by cases c <;> simp [fld]
theorem fld_mod (cm : List UInt8) : ∀ (s : List UInt8) (c : Option (List UInt8)) (acc : List (List UInt8)), (10 : UInt8) ∉ s → (35 : UInt8) ∉ s → fld (modT cm s ++ sfxV cm) c acc = fld s c acc ∧ fld (modT cm s) c acc = fld s c acc
  | [], c, acc, _, _ => by simp only [modT, List.nil_append, fld_sfx, fld_end]; exact ⟨trivial, trivial⟩
  | b :: r, c, acc, h10, h35 => by
    have ih := fun c acc => fld_mod cm r c acc (fun e => h10 (by simp [e])) (fun e => h35 (by simp [e]))
    have hb : b ≠ 10 := fun e => h10 (by simp [e])
    simp only [modT, if_neg hb]
    by_cases h32 : b = 32
    · subst h32
      have h0 : ((32 : UInt8).toNat : Int) = 32 := rfl
      have h1 : ((9 : UInt8).toNat : Int) = 9 := rfl
      simp only [if_true, List.cons_append, List.nil_append, fld, h0, h1]
      simp [ih]
    · simp only [if_neg h32, List.nil_append, List.cons_append, fld, (ih _ _).1, (ih _ _).2]
      exact ⟨trivial, trivial⟩
theorem modT_app (cm : List UInt8) : ∀ s t : List UInt8, modT cm (s ++ t) = modT cm s ++ modT cm t
  | [], t => rfl
  | b :: r, t => by simp only [List.cons_append, modT, modT_app cm r t, List.append_assoc]
theorem scanL_cong {x y : List UInt8} {S T : List (List UInt8)} {k : Nat} {acc : List Ln} (h : fld x none [] = fld y none []) (hs : ∀ acc, scanL S (k + 1) acc = scanL T (k + 1) acc) : scanL (x :: S) k acc = scanL (y :: T) k acc := by
  simp only [scanL, h, hs]
theorem scan_mod (cm : List UInt8) : ∀ (s pre : List UInt8) (k : Nat) (acc : List Ln), (35 : UInt8) ∉ s → (35 : UInt8) ∉ pre → (10 : UInt8) ∉ pre → scanL (withP (modT cm pre) (splitL 10 (modT cm s))) k acc = scanL (withP pre (splitL 10 s)) k acc
  | [], pre, k, acc, _, h35, h10 => by
    simp only [modT, withP_end]
    exact scanL_cong (fld_mod cm pre _ _ h10 h35).2 (fun _ => rfl)
  | b :: r, pre, k, acc, hs, h35, h10 => by
    have hr : (35 : UInt8) ∉ r := fun e => hs (by simp [e])
    have hb : b ≠ 35 := fun e => hs (by simp [e])
    by_cases h1 : b = 10
    · subst h1
      rw [withP_sep]
      simp only [modT, if_true]
      rw [splitL_seg 10 _ _ (sfx_no cm)]
      simp only [withP]
      refine scanL_cong (fld_mod cm pre _ _ h10 h35).1 fun acc => ?_
      have := scan_mod cm r [] (k + 1) acc hr (by simp) (by simp)
      simpa only [modT, withP_nil] using this
    · rw [withP_more _ _ _ _ h1, ← scan_mod cm r (pre ++ [b]) k acc hr (by simp [h35, Ne.symm hb]) (by simp [h10, Ne.symm h1])]
      rw [modT_app]
      simp only [modT, if_neg h1, List.append_nil]
      by_cases h2 : b = 32
      · subst h2
        simp only [if_true, List.cons_append, List.nil_append]
        rw [withP_more 10 9 _ _ (by decide), withP_more 10 32 _ _ (by decide), List.append_assoc]
        rfl
      · simp only [if_neg h2, List.nil_append]
        rw [withP_more 10 b _ _ h1]
theorem textL_no : ∀ (l : List Ln) (k : Nat), formB k l = true → (35 : UInt8) ∉ textL (k + 1) l
  | [], k, _ => by simp [textL]
  | x :: r, k, h => by
    obtain ⟨h1, h2, h3, h4⟩ := formB_cons.1 h
    obtain ⟨n, hn⟩ : ∃ n : Nat, x.num = (n : Int) := ⟨x.num.toNat, by omega⟩
    rw [hn] at h4
    have h5 := textL_no r n h4
    have h6 := (words_no h3).2
    simp only [textL, hn, Int.toNat_natCast, List.mem_append, List.mem_cons, List.mem_replicate, not_or]
    exact ⟨fun e => by simp at e, h6, by decide, h5⟩
theorem fLines_mod (cm : List UInt8) (l : List Ln) (h : formB 0 l = true) (hl : (modT cm (textL 1 l)).length ≤ 6000) : fLines (modT cm (textL 1 l)) = (l, 0, 0) := by
  unfold fLines
  rw [if_neg (by omega)]
  have h1 := scan_mod cm (textL 1 l) [] 1 [] (textL_no l 0 h) (by simp) (by simp)
  simp only [modT, withP_nil] at h1
  rw [h1]
  have := scan_text l 0 [] h
  simpa using this
end Go.Am

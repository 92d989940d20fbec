/- strings.Join, as a contract of the machine. -/
import Derived.Test.YtpjbedkmjlgmgaaDoorCmda
import Derived.Test.YtpjbedkmjlgmgaaDoorShelf
namespace Go.Am
open Go Go.Proofs Go.RowKit
set_option maxRecDepth 100000
set_option linter.unusedVariables false
set_option linter.unusedSimpArgs false
theorem join_words (fs : List (List UInt8)) : Lib.join fs [32] = wordsV fs := by
  cases fs with
  | nil => rfl
  | cons x r => simp [Lib.join_cons, Lib.joinTail, wordsV, List.flatMap]
theorem joinw_ok (fs : List (List UInt8)) (hne : fs ≠ []) (hl : fs.length ≤ 100000000) (hs : szF fs ≤ 1000000000000) : ACalls Tryd.prog 30 [.p (.sl (encS fs)), .p (.str [32])] [] fun h r => h = [] ∧ r = .p (.str (wordsV fs)) := by
  refine ACalls_below enters30 fun vs w F M _ hFl hd => ?_
  obtain ⟨a, b, rfl, ha, hb⟩ := drl_two hd
  rw [dr_str hb]
  have hlen := wordsV_len fs hne
  cases ha with
  | p ha =>
  have hpos : 0 < fs.length := List.length_pos_iff.2 hne
  obtain ⟨xs, hxs⟩ : ∃ xs : List ByteArray, xs = fs.map fun s => ⟨s.toArray⟩ := ⟨_, rfl⟩
  have hxl : xs.length = fs.length := by rw [hxs, List.length_map]
  have hxj : ∀ (j : Nat) x, xs[j]? = some x → ∃ s, fs[j]? = some s ∧ x = ⟨s.toArray⟩ := by
    intro j x hx
    rw [hxs, List.getElem?_map] at hx
    cases hj : fs[j]? with
    | none => rw [hj] at hx; cases hx
    | some s => rw [hj] at hx; cases hx; exact ⟨s, rfl, rfl⟩
  have e2 : xs.map (fun x => x.data.toList) = fs := by rw [hxs]; simp [Function.comp_def]
  clear hxs
  obtain ⟨sep, hsep⟩ : ∃ sep : ByteArray, sep = ⟨[32].toArray⟩ := ⟨_, rfl⟩
  have hsl : sep.data.toList = [32] := by rw [hsep]
  have hjw : Lib.join (xs.map (fun x => x.data.toList)) sep.data.toList = wordsV fs := by rw [e2, hsl, join_words]
  rw [← hsep]
  clear hsep
  have key : ∀ (es : List (List Pd)), es = encS fs → PR F w (.sl es) a → Calls Tryd.prog 30 #[a, .string sep] w fun e w' => ∃ v, e = .returned v ∧ PR (fun _ => False) w' (.str (wordsV fs)) v ∧ Below w.heap.size w w' := by
    intro es he ha
    cases ha with
    | sl0 a cap =>
      have := congrArg List.length he
      rw [encS_len] at this
      simp at this
      omega
    | sl _ bk off cap sz row t fr hF hh hc hsz hi hp =>
      have hel : es.length = xs.length := by rw [he, encS_len, hxl]
      have hes : ∀ (j : Nat) s, fs[j]? = some s → es[j]? = some [.str s] := fun j s h => by rw [he]; simp [encS, h]
      have hsz1 : sz = 1 := by
        have h0 : fs[0]? = some (fs[0]'hpos) := List.getElem?_eq_getElem hpos
        have := hsz 0 _ (hes 0 _ h0)
        simpa using this.symm
      subst hsz1
      clear he
      have h1 : ∀ (j : Nat) x, xs[j]? = some x → w.cell? ⟨bk, off + j, none⟩ = some (.string x) := by
        intro j x hx
        obtain ⟨s, hs, rfl⟩ := hxj j x hx
        have h1 := hi j [.str s] 0 (.str s) (hes j s hs) rfl
        have h2 := hp j [.str s] 0 (.str s) (hes j s hs) rfl
        rw [Nat.mul_one, Nat.add_zero] at h1 h2
        rw [Array.getD_eq_getD_getElem?, Array.getElem?_eq_getElem h1] at h2
        have h3 : w.cell? ⟨bk, off + j, none⟩ = row[off + j]? := by simp only [World.cell?, hh]; rfl
        rw [h3, Array.getElem?_eq_getElem h1]
        simp only [Option.getD_some] at h2
        generalize row[off + j] = y at h2
        cases h2
        rfl
      rw [hel] at hc ⊢
      have h5 := Tryd.strings_Join bk off cap xs sep w h1 (hFl bk hF) (by omega) hc (by rw [hjw]; omega)
      rw [hjw] at h5
      refine h5.mono ?_
      rintro e w' ⟨rfl, hb⟩
      exact ⟨_, rfl, .str _, hb⟩
  exact key _ rfl ha

end Go.Am

/- Booleans, compared. -/
import Derived.Test.YtefdjkakojfhnaaDoorDigv
import Derived.Laws.StructEq
namespace Go.Am
open Go Go.Proofs
theorem TK.of_bool {u : TypeDesc} (h : TK.of u = .bool) : u = .bool := by cases u <;> simp_all [TK.of]
section
variable {P : Program} {ops rest : List Oper} {k : Kt} {st : St} {o : Oper}
theorem Af_bne {x y : Operand} {t : TypeId} {tr : _} {p q : Bool} {n0 n1 : Nat} {z0 : D} (ho : o.op = .binOp .neq t x y tr) (ht : tiOf P t = some ⟨n0, n1, .bool, z0⟩) (hx : ev st x = .p (.bool p)) (hy : ev st y = .p (.bool q)) (h : O P true ops rest k (st.put o.dst (.p (.bool (p != q))))) :
    Af P true ops rest k o st .fail := by
  refine Af_sem fun c a w F M Q hr => ?_
  obtain ⟨_, u1, _, _, hu1, _, e1⟩ := tiOf_some ht
  simp only [TI.mk.injEq] at e1
  obtain rfl := TK.of_bool e1.2.2.1.symm
  have hvx := ev_sound hr x
  have hvy := ev_sound hr y
  rw [hx] at hvx
  rw [hy] at hvy
  generalize h1 : a.eval x = v1 at hvx
  generalize h2 : a.eval y = v2 at hvy
  cases hvx with | p hvx => cases hvx; cases hvy with | p hvy =>
  cases hvy
  unfold Oper.wp
  have hex : (execOp a.eval o).run P w = .ok (.value (.bool (p != q))) w := by
    simp only [execOp, ho, h1, h2]
    have he : (Op.equal t (.bool p) (.bool q)).run P w = .ok (p == q) w := run_equalIn_bool' w _ t p q hu1
    simp [eqGuard, binOp, he, bne]
  rw [hex]
  exact ⟨_, _, _, h, hr.put (.p (.bool _)) o.dst⟩
theorem Af_beq {x y : Operand} {t : TypeId} {tr : _} {p q : Bool} {n0 n1 : Nat} {z0 : D} (ho : o.op = .binOp .eql t x y tr) (ht : tiOf P t = some ⟨n0, n1, .bool, z0⟩) (hx : ev st x = .p (.bool p)) (hy : ev st y = .p (.bool q)) (h : O P true ops rest k (st.put o.dst (.p (.bool (p == q))))) :
    Af P true ops rest k o st .fail := by
  refine Af_sem fun c a w F M Q hr => ?_
  obtain ⟨_, u1, _, _, hu1, _, e1⟩ := tiOf_some ht
  simp only [TI.mk.injEq] at e1
  obtain rfl := TK.of_bool e1.2.2.1.symm
  have hvx := ev_sound hr x
  have hvy := ev_sound hr y
  rw [hx] at hvx
  rw [hy] at hvy
  generalize h1 : a.eval x = v1 at hvx
  generalize h2 : a.eval y = v2 at hvy
  cases hvx with | p hvx => cases hvx; cases hvy with | p hvy =>
  cases hvy
  unfold Oper.wp
  have hex : (execOp a.eval o).run P w = .ok (.value (.bool (p == q))) w := by
    simp only [execOp, ho, h1, h2]
    have he : (Op.equal t (.bool p) (.bool q)).run P w = .ok (p == q) w := run_equalIn_bool' w _ t p q hu1
    simp [eqGuard, binOp, he, bne]
  rw [hex]
  exact ⟨_, _, _, h, hr.put (.p (.bool _)) o.dst⟩
end
end Go.Am

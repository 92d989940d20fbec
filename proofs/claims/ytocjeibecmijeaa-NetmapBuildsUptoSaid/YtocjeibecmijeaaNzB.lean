/- Texts of this proof, what it rests on, merged: part B. -/
import Derived.LoopN
import Derived.Scope
import Derived.Deep.Quiet
import Derived.Test.YtocjeibecmijeaaNzA
section
set_option linter.unusedVariables false
set_option linter.unusedSimpArgs false
namespace Go.Am
open Go
def bor (h : Hp) (d : D) (k : D → Hp → Prop) : Prop :=
  match d with
  | .ref id off len N => match get h id with
    | some (.arr _ _ es) => N = es.length ∧ k (.p (.sl ((es.drop off).take len))) (froze h id)
    | some (.fro _ es) => N = es.length ∧ k (.p (.sl ((es.drop off).take len))) h
    | _ => False
  | .nref id n => match get h id with
    | some (.nst _ _ sz kk rows none) => n = rows.length ∧ k (.p (.sl (rows.map fun r => [.sl r]))) (setL h id (.sem (deadO (.nst sz rows.length kk))))
    | _ => False
  | .cl es => k (.p (.sl es)) h
  | d => k d h
mutual
def borD (h : Hp) (d : D) (k : D → Hp → Prop) : Prop :=
  match d with
  | .agg cs => borDs h cs fun ds h' => k (.agg ds) h'
  | .tup cs => borDs h cs fun ds h' => k (.tup ds) h'
  | d => bor h d k
def borDs : Hp → List D → (List D → Hp → Prop) → Prop
  | h, [], k => k [] h
  | h, d :: r, k => borD h d fun x h' => borDs h' r fun xs h'' => k (x :: xs) h''
end
def lenD (P : Program) (h : Hp) (t : TypeId) (x : D) (k : D → Prop) : Prop :=
  match tiOf P t with
  | some ti => match ti.k, x with
    | .string, .p (.str l) => k (.p (.int .i64 l.length))
    | .slice _, .p (.sl es) => k (.p (.int .i64 es.length))
    | .slice _, .cl es => k (.p (.int .i64 es.length))
    | .slice _, .ref id _ len N => (match sg h id with | some (.arr _ m) => N = m | _ => False) ∧ k (.p (.int .i64 len))
    | .slice _, .nref _ n => k (.p (.int .i64 n))
    | .slice _, .nr _ _ len _ => k (.p (.int .i64 len))
    | .array n _, _ => k (.p (.int .i64 n))
    | _, _ => False
  | none => False
def builtinD (P : Program) (st : St) (q : Nat) (b : Builtin) (ts : Array TypeId) (args : List D) (k : D → Hp → Prop) : Prop :=
  match b, args with
  | .len, [x] => match ts[0]? with
    | some t => lenD P st.hp t x fun d => k d st.hp
    | none => False
  | .append, [s, x] => match ts[0]?, ts[1]? with
    | some t, some t2 => appD P st.hp q t t2 s x k
    | _, _ => False
  | .copy, [s, x] => match ts[0]?, ts[1]? with
    | some t, some _ => copyD P st.hp t s x k
    | _, _ => False
  | .min, [.p (.int k1 x), .p (.int k2 y)] => k1 = k2 ∧ k (.p (.int k1 (if y < x then y else x))) st.hp
  | .max, [.p (.int k1 x), .p (.int k2 y)] => k1 = k2 ∧ k (.p (.int k1 (if x < y then y else x))) st.hp
  | .min, [.p (.int k1 x), .p (.int k2 y), .p (.int k3 z)] => (k1 = k2 ∧ k2 = k3) ∧ k (.p (.int k1 (if z < (if y < x then y else x) then z else (if y < x then y else x)))) st.hp
  | _, _ => False
inductive Rs (α : Type) where
  | fail
  | ret (p : Prop) (a : α)
  | split (b : Bool) (x y : Rs α)
def Rs.all {α : Type} : Rs α → (α → Prop) → Prop
  | .fail, _ => False
  | .ret p a, k => p ∧ k a
  | .split b x y, k => WIf b (x.all k) (y.all k)
def Rs.and {α : Type} (p : Prop) : Rs α → Rs α
  | .fail => .fail
  | .ret q a => .ret (p ∧ q) a
  | .split b x y => .split b (x.and p) (y.and p)
def Rs.bind {α β : Type} : Rs α → (α → Rs β) → Rs β
  | .fail, _ => .fail
  | .ret p a, f => (f a).and p
  | .split b x y, f => .split b (x.bind f) (y.bind f)
theorem WIf.mono {b : Bool} {x y x' y' : Prop} (h : WIf b x y) (hx : x → x') (hy : y → y') : WIf b x' y' := ⟨fun e => hx (h.1 e), fun e => hy (h.2 e)⟩
def Rs.allOr {α : Type} (S : Prop) : Rs α → (α → Prop) → Prop
  | .fail, _ => S
  | .ret p a, k => p ∧ k a
  | .split b x y, k => WIf b (x.allOr S k) (y.allOr S k)
theorem Rs.allOr_or {α : Type} {S : Prop} {k : α → Prop} : ∀ {r : Rs α}, r.allOr S k → r.all k ∨ S
  | .fail, h => .inr h
  | .ret p a, h => .inl h
  | .split b x y, h => by
    cases b
    · rcases Rs.allOr_or (h.2 rfl) with h1 | h1
      · exact .inl ⟨fun e => (Bool.false_ne_true e).elim, fun _ => h1⟩
      · exact .inr h1
    · rcases Rs.allOr_or (h.1 rfl) with h1 | h1
      · exact .inl ⟨fun _ => h1, fun e => (Bool.false_ne_true e.symm).elim⟩
      · exact .inr h1
theorem Rs.all_and' {α : Type} {p : Prop} {k : α → Prop} : ∀ {r : Rs α}, (r.and p).all k → p ∧ r.all k
  | .fail, h => h.elim
  | .ret q a, h => ⟨h.1.1, h.1.2, h.2⟩
  | .split b x y, h => by
    have h1 : b = true → p ∧ x.all k := fun e => Rs.all_and' (h.1 e)
    have h2 : b = false → p ∧ y.all k := fun e => Rs.all_and' (h.2 e)
    refine ⟨?_, fun e => (h1 e).2, fun e => (h2 e).2⟩
    cases b
    · exact (h2 rfl).1
    · exact (h1 rfl).1
theorem Rs.all_mono {α : Type} {k k' : α → Prop} (hk : ∀ a, k a → k' a) : ∀ {r : Rs α}, r.all k → r.all k'
  | .fail, h => h.elim
  | .ret q a, h => ⟨h.1, hk _ h.2⟩
  | .split b x y, h => WIf.mono h (Rs.all_mono hk) (Rs.all_mono hk)
theorem Rs.all_bind {α β : Type} {f : α → Rs β} {k : β → Prop} : ∀ {r : Rs α}, (r.bind f).all k → r.all (fun a => (f a).all k)
  | .fail, h => h.elim
  | .ret p a, h => Rs.all_and' h
  | .split b x y, h => WIf.mono h Rs.all_bind Rs.all_bind
def partR (ti : TI) (cs : List D) (off : Nat) : Rs D :=
  if ti.k.isAgg then .ret (off + ti.size ≤ cs.length) (.agg ((cs.drop off).take ti.size))
  else match cs[off]? with
    | some d => .ret True d
    | none => .fail
theorem partR_all {ti : TI} {cs : List D} {off : Nat} {k : D → Prop} (h : (partR ti cs off).all k) : partD ti cs off k := by
  unfold partR at h; unfold partD
  split at h
  · rename_i e; rw [if_pos e]; exact h
  · rename_i e; rw [if_neg e]; split at h <;> simp_all [Rs.all]
def partPR (ti : TI) (cs : List Pd) (off : Nat) : Rs D :=
  if ti.k.isAgg then .ret (off + ti.size ≤ cs.length) (.agg (((cs.drop off).take ti.size).map D.p))
  else match cs[off]? with
    | some d => .ret True (.p d)
    | none => .fail
theorem partPR_all {ti : TI} {cs : List Pd} {off : Nat} {k : D → Prop} (h : (partPR ti cs off).all k) : partP ti cs off k := by
  unfold partPR at h; unfold partP
  split at h
  · rename_i e; rw [if_pos e]; exact h
  · rename_i e; rw [if_neg e]; split at h <;> simp_all [Rs.all]
def loadR (P : Program) (h : Hp) (t : TypeId) (d : D) : Rs D :=
  match tiOf P t, d with
  | some ti, .ptr id off => match get h id with
    | some (.box cs _) => partR ti cs off
    | _ => .fail
  | some ti, .pe cs => partPR ti cs 0
  | some ti, .ea id i c N => match get h id with
    | some (.arr _ _ es) => (partPR ti (es.getD i []) c).and (N = es.length)
    | some (.fro _ es) => (partPR ti (es.getD i []) c).and (N = es.length)
    | some (.arx _ _ es i0 c0 d) => .split (decide (i = i0 ∧ c = c0)) (.ret (N = es.length ∧ ti.k.isAgg = false) d) ((partPR ti (es.getD i []) c).and (N = es.length ∧ ti.k.isAgg = false))
    | _ => .fail
  | some ti, .nea id i n => match get h id with
    | some (.nst _ _ _ kk rows hole) => .ret (n = rows.length ∧ hole ≠ some i ∧ ti.k.isAgg = false) (.nr id i (rows.getD i []).length kk)
    | _ => .fail
  | _, _ => .fail
theorem loadR_all {P : Program} {h : Hp} {t : TypeId} {d : D} {k : D → Prop} (hh : (loadR P h t d).all k) : loadD P h t d k := by
  unfold loadR at hh; unfold loadD
  split at hh
  · rename_i h1; simp only [h1]
    split at hh
    · rename_i h2; simp only [h2]; exact partR_all hh
    · exact hh.elim
  · rename_i h1; simp only [h1]; exact partPR_all hh
  · rename_i h1; simp only [h1]
    split at hh
    · rename_i h2; simp only [h2]; exact ⟨(Rs.all_and' hh).1, partPR_all (Rs.all_and' hh).2⟩
    · rename_i h2; simp only [h2]; exact ⟨(Rs.all_and' hh).1, partPR_all (Rs.all_and' hh).2⟩
    · rename_i h2; simp only [h2]; exact WIf.mono hh id fun hh => ⟨(Rs.all_and' hh).1, partPR_all (Rs.all_and' hh).2⟩
    · exact hh.elim
  · rename_i h1; simp only [h1]
    split at hh
    · rename_i h2; simp only [h2]; exact hh
    · exact hh.elim
  · exact hh.elim
def binR (op : BinOp) (x y : D) : Rs D :=
  match op, x, y with
  | .add, .p (.int k1 a), .p (.int k2 b) => .ret (k1 = k2) (.p (.int k1 (k1.wrap (a + b))))
  | .sub, .p (.int k1 a), .p (.int k2 b) => .ret (k1 = k2) (.p (.int k1 (k1.wrap (a - b))))
  | .mul, .p (.int k1 a), .p (.int k2 b) => .ret (k1 = k2) (.p (.int k1 (k1.wrap (a * b))))
  | .quo, .p (.int k1 a), .p (.int k2 b) => .ret (k1 = k2 ∧ b ≠ 0) (.p (.int k1 (k1.wrap (a.tdiv b))))
  | .rem, .p (.int k1 a), .p (.int k2 b) => .ret (k1 = k2 ∧ b ≠ 0) (.p (.int k1 (a.tmod b)))
  | .eql, .p (.int k1 a), .p (.int k2 b) => .ret (k1 = k2) (.p (.bool (decide (a = b))))
  | .neq, .p (.int k1 a), .p (.int k2 b) => .ret (k1 = k2) (.p (.bool (!decide (a = b))))
  | .lss, .p (.int k1 a), .p (.int k2 b) => .ret (k1 = k2) (.p (.bool (decide (a < b))))
  | .leq, .p (.int k1 a), .p (.int k2 b) => .ret (k1 = k2) (.p (.bool (decide (a ≤ b))))
  | .gtr, .p (.int k1 a), .p (.int k2 b) => .ret (k1 = k2) (.p (.bool (decide (b < a))))
  | .geq, .p (.int k1 a), .p (.int k2 b) => .ret (k1 = k2) (.p (.bool (decide (b ≤ a))))
  | .and, .p (.int k1 a), .p (.int k2 b) => .ret (k1 = k2) (.p (.int k1 (k1.wrap (BitVec.ofInt k1.bits a &&& BitVec.ofInt k1.bits b).toNat)))
  | .shr, .p (.int k1 a), .p (.int _ b) => .ret (0 ≤ b) (.p (.int k1 (a.fdiv (2 ^ (min b.toNat k1.bits)))))
  | .add, .p (.str a), .p (.str b) => .ret (a.length + b.length ≤ maxLen) (.p (.str (a ++ b)))
  | .eql, .p (.str a), .p (.str b) => .ret True (.p (.bool (decide (a = b))))
  | .neq, .p (.str a), .p (.str b) => .ret True (.p (.bool (!decide (a = b))))
  | _, _, _ => .fail
theorem binR_all {op : BinOp} {x y : D} {k : D → Prop} (h : (binR op x y).all k) : binD op x y k := by
  unfold binR at h
  split at h <;> first
    | exact h.elim
    | exact h
    | exact ⟨h.1.1, h.1.2, h.2⟩
    | exact h.2
def binBR (P : Program) (op : BinOp) (t : TypeId) (x y : D) : Rs D :=
  match op, x, y with
  | .eql, .p (.bool a), .p (.bool b) => (match tiOf P t with | some ⟨_, _, .bool, _⟩ => .ret True (.p (.bool (a == b))) | _ => .fail)
  | .neq, .p (.bool a), .p (.bool b) => (match tiOf P t with | some ⟨_, _, .bool, _⟩ => .ret True (.p (.bool (!(a == b)))) | _ => .fail)
  | .eql, .agg xs, .agg ys => (match eqAgg P t xs ys with | some b => .ret True (.p (.bool b)) | none => .fail)
  | .neq, .agg xs, .agg ys => (match eqAgg P t xs ys with | some b => .ret True (.p (.bool (!b))) | none => .fail)
  | .eql, .p (.sl es), .cl [] => (match tiOf P t with | some ⟨_, _, .slice _, _⟩ => .ret (es ≠ []) (.p (.bool false)) | _ => .fail)
  | .eql, .cl es, .cl [] => (match tiOf P t with | some ⟨_, _, .slice _, _⟩ => .ret True (.p (.bool es.isEmpty)) | _ => .fail)
  | op, x, y => binR op x y
theorem binBR_all {P : Program} {op : BinOp} {t : TypeId} {x y : D} {k : D → Prop} (h : (binBR P op t x y).all k) : binBD P op t x y k := by
  unfold binBR at h
  split at h
  · split at h
    · rename_i h1; simp only [binBD, h1]; exact h.2
    · exact h.elim
  · split at h
    · rename_i h1; simp only [binBD, h1]; exact h.2
    · exact h.elim
  · split at h
    · rename_i h1; simp only [binBD, h1]; exact h.2
    · exact h.elim
  · split at h
    · rename_i h1; simp only [binBD, h1]; exact h.2
    · exact h.elim
  · split at h
    · rename_i h1; simp only [binBD, h1]; exact h
    · exact h.elim
  · split at h
    · rename_i h1; simp only [binBD, h1]; exact h.2
    · exact h.elim
  · rename_i n1 n2 n3 n4 n5 n6
    have h2 := binR_all h
    unfold binBD
    split
    · exact (n1 _ _ rfl rfl rfl).elim
    · exact (n2 _ _ rfl rfl rfl).elim
    · exact (n3 _ _ rfl rfl rfl).elim
    · exact (n4 _ _ rfl rfl rfl).elim
    · exact (n5 _ rfl rfl rfl).elim
    · exact (n6 _ rfl rfl rfl).elim
    · exact h2
def unR (op : UnOp) (x : D) : Rs D :=
  match op, x with
  | .not, .p (.bool b) => .ret True (.p (.bool (!b)))
  | .neg, .p (.int kd n) => .ret True (.p (.int kd (kd.wrap (0 - n))))
  | _, _ => .fail
theorem unR_all {op : UnOp} {x : D} {k : D → Prop} (h : (unR op x).all k) : unD op x k := by
  unfold unR at h; split at h <;> first | exact h.elim | exact h.2
def pickR (c a b : D) : Rs D :=
  match c, a, b with
  | .p (.bool t), .p (.bool x), .p (.bool y) => .ret True (.p (.bool (if t then x else y)))
  | .p (.bool t), a, b => .split t (.ret True a) (.ret True b)
  | _, _, _ => .fail
theorem pickR_all {c x y : D} {k : D → Prop} (h : (pickR c x y).all k) : pickD c x y k := by
  unfold pickR at h
  unfold pickD
  split at h
  · exact h.2
  · rename_i t a b hne
    split
    · rename_i e1 e2 e3; exact (hne _ _ rfl rfl).elim
    · rename_i e _; cases e; exact WIf.mono h (fun h => h.2) (fun h => h.2)
    · rename_i h1 _; exact (h1 _ rfl).elim
  · exact h.elim
def convR (P : Program) (s d : TypeId) (x : D) : Rs D :=
  match tiOf P s, tiOf P d, x with
  | some _, some ⟨_, _, .int kd, _⟩, .p (.int _ n) => .ret True (.p (.int kd (kd.wrap n)))
  | some _, some ⟨_, _, .string, _⟩, .p (.str l) => .ret True (.p (.str l))
  | some ⟨_, _, .slice e, _⟩, some ⟨_, _, .string, _⟩, .p (.sl es) => match tiOf P e, decB es with
    | some ⟨_, _, .int .u8, _⟩, some l => .ret True (.p (.str l))
    | _, _ => .fail
  | _, _, _ => .fail
theorem convR_all {P : Program} {s d : TypeId} {x : D} {k : D → Prop} (h : (convR P s d x).all k) : convD P s d x k := by
  unfold convR at h; unfold convD
  split at h
  · rename_i h1 h2; simp only [h1, h2]; exact h.2
  · rename_i h1 h2; simp only [h1, h2]; exact h.2
  · rename_i h1 h2; simp only [h1, h2]
    split at h
    · rename_i h3 h4; simp only [h3, h4]; exact h.2
    · exact h.elim
  · exact h.elim
def curR (h : Hp) (id N : Nat) : Prop := match sg h id with | some (.arr _ m) => N = m | _ => False
def fieldAddrR (P : Program) (t : TypeId) (x : D) (f : Nat) (h : Hp) : Rs D :=
  match tiOf P t with
  | some ⟨_, _, .struct fs, _⟩ => match fs[f]? with
    | some (o, u) => match tiOf P u with
      | some ti => match x with
        | .ptr id off => .ret (ti.size ≠ 0) (.ptr id (off + o))
        | .pe cs => .ret (ti.size ≠ 0) (.pe (cs.drop o))
        | .ea id i c N => .ret (ti.size ≠ 0 ∧ curR h id N) (.ea id i (c + o) N)
        | _ => .fail
      | none => .fail
    | none => .fail
  | _ => .fail
theorem fieldAddrR_all {P : Program} {t : TypeId} {x : D} {f : Nat} {h : Hp} {k : D → Prop} (hh : (fieldAddrR P t x f h).all k) : fieldAddrD P t x f h k := by
  unfold fieldAddrR at hh; unfold fieldAddrD
  split at hh
  · rename_i h1; simp only [h1]
    split at hh
    · rename_i h2; simp only [h2]
      split at hh
      · rename_i h3; simp only [h3]
        split at hh
        · exact hh
        · exact hh
        · exact ⟨hh.1.1, hh.1.2, hh.2⟩
        · exact hh.elim
      · exact hh.elim
    · exact hh.elim
  · exact hh.elim
def fieldR (P : Program) (t : TypeId) (x : D) (f : Nat) : Rs D :=
  match tiOf P t with
  | some ⟨_, _, .struct fs, _⟩ => match fs[f]?, x with
    | some (o, u), .agg cs => match tiOf P u with
      | some ti => partR ti cs o
      | none => .fail
    | _, _ => .fail
  | _ => .fail
theorem fieldR_all {P : Program} {t : TypeId} {x : D} {f : Nat} {k : D → Prop} (hh : (fieldR P t x f).all k) : fieldD P t x f k := by
  unfold fieldR at hh; unfold fieldD
  split at hh
  · rename_i h1; simp only [h1]
    split at hh
    · rename_i h2; simp only [h2]
      split at hh
      · rename_i h3; simp only [h3]; exact partR_all hh
      · exact hh.elim
    · exact hh.elim
  · exact hh.elim
def indexAddrR (P : Program) (t : TypeId) (x i : D) (h : Hp) : Rs D :=
  match tiOf P t, i with
  | some ⟨_, _, .slice e, _⟩, .p (.int _ n) => match tiOf P e with
    | some ti => match x with
      | .p (.sl es) => .ret ((0 ≤ n ∧ n < es.length) ∧ (es.getD n.toNat []).length = ti.size) (.pe (es.getD n.toNat []))
      | .cl es => .ret ((0 ≤ n ∧ n < es.length) ∧ (es.getD n.toNat []).length = ti.size) (.pe (es.getD n.toNat []))
      | .ref id off len N => match sg h id with
        | some (.arr sz m) => .ret ((0 ≤ n ∧ n < len) ∧ sz = ti.size ∧ N = m) (.ea id (off + n.toNat) 0 N)
        | _ => .fail
      | .nref id N => .ret ((0 ≤ n ∧ n < N) ∧ ti.size = 1) (.nea id n.toNat N)
      | _ => .fail
    | none => .fail
  | some ⟨_, _, .array m e, _⟩, .p (.int _ n) => match tiOf P e, x with
    | some ti, .ptr id off => .ret (0 ≤ n ∧ n < m) (.ptr id (off + n.toNat * ti.size))
    | some ti, .pe cs => .ret (0 ≤ n ∧ n < m) (.pe (cs.drop (n.toNat * ti.size)))
    | _, _ => .fail
  | _, _ => .fail
theorem indexAddrR_all {P : Program} {t : TypeId} {x i : D} {h : Hp} {k : D → Prop} (hh : (indexAddrR P t x i h).all k) : indexAddrD P t x i h k := by
  unfold indexAddrR at hh; unfold indexAddrD
  split at hh
  · rename_i h1; simp only [h1]
    split at hh
    · rename_i h2; simp only [h2]
      split at hh
      · exact ⟨hh.1.1, hh.1.2, hh.2⟩
      · exact ⟨hh.1.1, hh.1.2, hh.2⟩
      · split at hh
        · rename_i h3; simp only [h3]; exact ⟨hh.1.1, hh.1.2.1, hh.1.2.2, hh.2⟩
        · exact hh.elim
      · exact ⟨hh.1.1, hh.1.2, hh.2⟩
      · exact hh.elim
    · exact hh.elim
  · rename_i h1; simp only [h1]
    split at hh
    · rename_i h2; simp only [h2]; exact hh
    · rename_i h2; simp only [h2]; exact hh
    · exact hh.elim
  · exact hh.elim
def indexR (P : Program) (t : TypeId) (x i : D) : Rs D :=
  match tiOf P t, x, i with
  | some ⟨_, _, .string, _⟩, .p (.str l), .p (.int _ n) => .ret (0 ≤ n ∧ n < l.length) (.p (.int .u8 (l.getD n.toNat 0).toNat))
  | some ⟨_, _, .array m e, _⟩, .agg cs, .p (.int _ n) => match tiOf P e with
    | some ti => (partR ti cs (n.toNat * ti.size)).and (0 ≤ n ∧ n < m)
    | none => .fail
  | _, _, _ => .fail
theorem indexR_all {P : Program} {t : TypeId} {x i : D} {k : D → Prop} (hh : (indexR P t x i).all k) : indexD P t x i k := by
  unfold indexR at hh; unfold indexD
  split at hh
  · rename_i h1; simp only [h1]; exact hh
  · rename_i h1; simp only [h1]
    split at hh
    · rename_i h2; simp only [h2]; exact ⟨(Rs.all_and' hh).1, partR_all (Rs.all_and' hh).2⟩
    · exact hh.elim
  · exact hh.elim
def boundR (st : St) (o : Option Operand) (dflt : Int) : Rs Int :=
  match o with
  | none => .ret True dflt
  | some x => match ev st x with
    | .p (.int _ n) => .ret True n
    | _ => .fail
theorem boundR_all {st : St} {o : Option Operand} {n : Int} {k : Int → Prop} (h : (boundR st o n).all k) : boundD st o n k := by
  unfold boundR at h; unfold boundD
  split at h
  · exact h.2
  · split at h
    · rename_i h1; simp only [h1]; exact h.2
    · exact h.elim
def Wid (n : Nat) (es : List (List Pd)) : Prop := ∀ e ∈ es, e.length = n
theorem Wid.get {n : Nat} {es : List (List Pd)} (h : Wid n es) : ∀ (i : Nat) e, es[i]? = some e → e.length = n := fun _ e he => h e (List.mem_of_getElem? he)
def sliceR (P : Program) (st : St) (t : TypeId) (x : D) (lo hi mx : Option Operand) : Rs D :=
  match tiOf P t, x with
  | some ⟨_, _, .string, _⟩, .p (.str l) => (boundR st lo 0).bind fun a => (boundR st hi l.length).bind fun b =>
      .ret (mx.isNone = true ∧ (0 ≤ a ∧ a ≤ b ∧ b ≤ l.length)) (.p (.str ((l.take b.toNat).drop a.toNat)))
  | some ⟨_, _, .slice e, _⟩, x => match tiOf P e with
    | some ti => match x with
      | .p (.sl es) => match mx with
        | none => (boundR st lo 0).bind fun a => (boundR st hi es.length).bind fun b => .ret ((0 ≤ a ∧ a ≤ b ∧ b ≤ es.length) ∧ Wid ti.size es) (.p (.sl ((es.take b.toNat).drop a.toNat)))
        | some m => (boundR st lo 0).bind fun a => (boundR st hi es.length).bind fun b => (boundR st (some m) 0).bind fun c =>
            .ret ((0 ≤ a ∧ a ≤ b ∧ b = c ∧ c ≤ es.length) ∧ Wid ti.size es ∧ hi.isSome = true) (.cz ((es.take b.toNat).drop a.toNat))
      | .ref id off len N => match sg st.hp id with
        | some (.arr sz m) => (boundR st lo 0).bind fun a => (boundR st hi len).bind fun b =>
            .ret (mx.isNone = true ∧ sz = ti.size ∧ (0 ≤ a ∧ a ≤ b ∧ b ≤ len) ∧ N = m) (.ref id (off + a.toNat) (b - a).toNat N)
        | _ => .fail
      | _ => .fail
    | none => .fail
  | _, _ => .fail
theorem bd {st : St} {o : Option Operand} {n : Int} {f : Int → Rs D} {k : D → Prop} {k' : Int → Prop} (h : ((boundR st o n).bind f).all k) (hf : ∀ a, (f a).all k → k' a) : boundD st o n k' :=
  boundR_all (Rs.all_mono hf (Rs.all_bind h))
theorem bd_and {st : St} {o : Option Operand} {n : Int} {q : Prop} {k : Int → Prop} (h : boundD st o n (fun a => q ∧ k a)) : q ∧ boundD st o n k := by
  unfold boundD at *
  cases o with
  | none => exact h
  | some x =>
    simp only at h ⊢
    split at h
    · rename_i h1; exact h
    · exact h.elim
theorem boundD_mono {st : St} {o : Option Operand} {n : Int} {k k' : Int → Prop} (hk : ∀ a, k a → k' a) (h : boundD st o n k) : boundD st o n k' := by
  unfold boundD at *
  split at h
  · exact hk _ h
  · split at h
    · exact hk _ h
    · exact h.elim
theorem sliceR_all {P : Program} {st : St} {t : TypeId} {x : D} {lo hi mx : Option Operand} {k : D → Prop} (hh : (sliceR P st t x lo hi mx).all k) : sliceD P st t x lo hi mx k := by
  unfold sliceR at hh; unfold sliceD
  split at hh
  · rename_i h1; simp only [h1]
    refine bd_and (bd hh fun a h => bd_and (bd h fun b h => ?_))
    exact ⟨h.1.1, h.1.2, h.2⟩
  · rename_i h1
    split at hh
    case h_2 => exact hh.elim
    rename_i h2
    split at hh
    · rw [h1]
      simp only [h2]
      split at hh
      · exact bd hh fun a h => bd h fun b h => ⟨h.1.1, h.1.2.get, h.2⟩
      · exact bd hh fun a h => bd h fun b h => bd h fun c h => ⟨h.1.1, h.1.2.1.get, h.1.2.2, h.2⟩
    · rw [h1]
      simp only [h2]
      split at hh
      · rename_i h3
        simp only [h3]
        have h4 := bd hh fun a h => bd h fun b h => (⟨h.1.1, h.1.2.1, h.1.2.2.1, h.1.2.2.2, h.2⟩ : mx.isNone = true ∧ _ ∧ _ ∧ _ ∧ _)
        have h5 := bd_and (boundD_mono (fun a h => bd_and h) h4)
        have h6 := bd_and (boundD_mono (fun a h => bd_and h) h5.2)
        exact ⟨h5.1, h6.1, h6.2⟩
      · exact hh.elim
    · exact hh.elim
  · exact hh.elim
def buildR (P : Program) (st : St) (t : TypeId) (parts : List (Nat × Operand)) : Rs D :=
  match tiOf P t with
  | some ⟨_, _, .struct fs, z⟩ =>
    match placesD P fs, z with
    | some pl, .agg zs => match fillD (fun i => pl[i]?) zs (parts.map fun q => (q.1, ev st q.2)) with
      | some cs => .ret True (.agg cs)
      | none => .fail
    | _, _ => .fail
  | some ⟨_, _, .array _ e, z⟩ =>
    match tiOf P e, z with
    | some ti, .agg zs => match fillD (fun i => some (i * ti.size, ti.size)) zs (parts.map fun q => (q.1, ev st q.2)) with
      | some cs => .ret True (.agg cs)
      | none => .fail
    | _, _ => .fail
  | _ => .fail
theorem buildR_all {P : Program} {st : St} {t : TypeId} {parts : List (Nat × Operand)} {k : D → Prop} (hh : (buildR P st t parts).all k) : buildD P st t parts k := by
  unfold buildR at hh; unfold buildD
  split at hh
  · rename_i h1; simp only [h1]
    split at hh
    · rename_i h2; simp only [h2]
      split at hh
      · rename_i h3; simp only [h3]; exact hh.2
      · exact hh.elim
    · exact hh.elim
  · rename_i h1; simp only [h1]
    split at hh
    · rename_i h2; simp only [h2]
      split at hh
      · rename_i h3; simp only [h3]; exact hh.2
      · exact hh.elim
    · exact hh.elim
  · exact hh.elim
def extractR (x : D) (i : Nat) : Rs D :=
  match x with
  | .tup cs => match cs[i]? with
    | some d => .ret True d
    | none => .fail
  | _ => .fail
theorem extractR_all {x : D} {i : Nat} {k : D → Prop} (hh : (extractR x i).all k) : extractD x i k := by
  unfold extractR at hh; unfold extractD
  split at hh
  · split at hh
    · rename_i h1; simp only [h1]; exact hh.2
    · exact hh.elim
  · exact hh.elim
def lookupR (P : Program) (h : Hp) (t : TypeId) (x i : D) (ok : Bool) : Rs D :=
  match mapOf P t, x, i with
  | some (kk, z), .mv id, .p key => match get h id with
    | some (.mp l) => .ret (kk.fit key = true ∧ mfit key l) (lookD z ok (mget key l))
    | _ => .fail
  | _, _, _ => .fail
theorem lookupR_all {P : Program} {h : Hp} {t : TypeId} {x i : D} {ok : Bool} {k : D → Prop} (hh : (lookupR P h t x i ok).all k) : lookupD P h t x i ok k := by
  unfold lookupR at hh; unfold lookupD
  split at hh
  · rename_i h0
    simp only [h0]
    split at hh
    · rename_i h1; simp only [h1]; exact hh
    · exact hh.elim
  · exact hh.elim
def mapUpR (P : Program) (h : Hp) (t : TypeId) (m i v : D) : Rs Hp :=
  match mapOf P t, m, i, v with
  | some (kk, _), .mv id, .p key, .p x => match get h id with
    | some (.mp l) => .ret (kk.fit key = true ∧ mfit key l ∧ x.flat = true) (setL h id (.mp (mset key x l)))
    | _ => .fail
  | _, _, _, _ => .fail
theorem mapUpR_all {P : Program} {h : Hp} {t : TypeId} {m i v : D} {k : Hp → Prop} (hh : (mapUpR P h t m i v).all k) : mapUpD P h t m i v k := by
  unfold mapUpR at hh; unfold mapUpD
  split at hh
  · rename_i h0
    simp only [h0]
    split at hh
    · rename_i h1; simp only [h1]; exact hh
    · exact hh.elim
  · exact hh.elim
def vOpR (P : Program) (st : St) (op : Op) : Rs D :=
  match op with
  | .move x | .assign x => .ret True (ev st x)
  | .pick c a b => pickR (ev st c) (ev st a) (ev st b)
  | .binOp op t x y _ => binBR P op t (ev st x) (ev st y)
  | .unOp op _ x => unR op (ev st x)
  | .nilCheck x => match ev st x with
    | .ptr id off => .ret True (.ptr id off)
    | .pe cs => .ret True (.pe cs)
    | .ea id i c N => .ret (curR st.hp id N) (.ea id i c N)
    | _ => .fail
  | .convert s d x => convR P s d (ev st x)
  | .build t parts => buildR P st t parts.toList
  | .load t a => loadR P st.hp t (ev st a)
  | .slice t x lo hi mx => sliceR P st t (ev st x) lo hi mx
  | .fieldAddr t x f => fieldAddrR P t (ev st x) f st.hp
  | .field t x f => fieldR P t (ev st x) f
  | .indexAddr t x i => indexAddrR P t (ev st x) (ev st i) st.hp
  | .index t x i => indexR P t (ev st x) (ev st i)
  | .extract t i => extractR (ev st t) i
  | .lookup t x i ok => lookupR P st.hp t (ev st x) (ev st i) ok
  | .makeFunc (.func f) first cap => .ret (first.size = 0) (.fn f (cap.toList.map (ev st)))
  | _ => .fail
theorem vOpR_all {P : Program} {st : St} {op : Op} {k : D → Prop} (hh : (vOpR P st op).all k) : vOp P st op k := by
  unfold vOpR at hh; unfold vOp
  split at hh
  · exact hh.2
  · exact hh.2
  · exact pickR_all hh
  · exact binBR_all hh
  · exact unR_all hh
  · split at hh
    · rename_i h1; simp only [h1]; exact hh.2
    · rename_i h1; simp only [h1]; exact hh.2
    · rename_i h1; simp only [h1]; exact hh
    · exact hh.elim
  · exact convR_all hh
  · exact buildR_all hh
  · exact loadR_all hh
  · exact sliceR_all hh
  · exact fieldAddrR_all hh
  · exact fieldR_all hh
  · exact indexAddrR_all hh
  · exact indexR_all hh
  · exact extractR_all hh
  · exact lookupR_all hh
  · exact hh
  · exact hh.elim
def purR (h : Hp) (d : D) : Rs (Pd × Hp) :=
  match d with
  | .p x => .ret True (x, h)
  | .cl es => .ret True (.sl es, h)
  | .cz es => .ret True (.sl es, h)
  | .ref id off len N => match get h id with
    | some (.arr _ _ es) => .ret (N = es.length) (.sl ((es.drop off).take len), froze h id)
    | some (.fro _ es) => .ret (N = es.length) (.sl ((es.drop off).take len), h)
    | _ => .fail
  | .nref id n => match get h id with
    | some (.nst _ _ sz kk rows none) => .ret (n = rows.length) (.sl (rows.map fun r => [.sl r]), setL h id (.sem (deadO (.nst sz rows.length kk))))
    | _ => .fail
  | _ => .fail
theorem purR_all {h : Hp} {d : D} {k : Pd → Hp → Prop} (hh : (purR h d).all (fun x => k x.1 x.2)) : purD h d k := by
  unfold purR at hh; unfold purD
  split at hh
  · exact hh.2
  · exact hh.2
  · exact hh.2
  · split at hh
    · rename_i h1; simp only [h1]; exact hh
    · rename_i h1; simp only [h1]; exact hh
    · exact hh.elim
  · split at hh
    · rename_i h1; simp only [h1]; exact hh
    · exact hh.elim
  · exact hh.elim
def pursR : Hp → List D → Rs (List Pd × Hp)
  | h, [] => .ret True ([], h)
  | h, d :: r => (purR h d).bind fun x => (pursR x.2 r).bind fun y => .ret True (x.1 :: y.1, y.2)
theorem purD_mono {h : Hp} {d : D} {k k' : Pd → Hp → Prop} (hk : ∀ x h, k x h → k' x h) (hh : purD h d k) : purD h d k' := by
  unfold purD at *
  cases d with
  | p x => exact hk _ _ hh
  | cl es => exact hk _ _ hh
  | cz es => exact hk _ _ hh
  | ref id off len N =>
    simp only at hh ⊢
    split at hh
    · exact ⟨hh.1, hk _ _ hh.2⟩
    · exact ⟨hh.1, hk _ _ hh.2⟩
    · exact hh.elim
  | nref id n =>
    simp only at hh ⊢
    split at hh
    · exact ⟨hh.1, hk _ _ hh.2⟩
    · exact hh.elim
  | _ => exact hh
theorem pursD_mono : ∀ {ds : List D} {h : Hp} {k k' : List Pd → Hp → Prop}, (∀ x h, k x h → k' x h) → pursD h ds k → pursD h ds k'
  | [], h, k, k', hk, hh => hk _ _ hh
  | d :: r, h, k, k', hk, hh => purD_mono (fun x h' h1 => pursD_mono (fun xs h'' h2 => hk _ _ h2) h1) hh
theorem pursR_all : ∀ {ds : List D} {h : Hp} {k : List Pd → Hp → Prop}, (pursR h ds).all (fun x => k x.1 x.2) → pursD h ds k
  | [], h, k, hh => hh.2
  | d :: r, h, k, hh => by
    simp only [pursR] at hh
    exact purR_all (Rs.all_mono (fun x h1 => pursR_all (Rs.all_mono (fun y h2 => h2.2) (Rs.all_bind h1))) (Rs.all_bind hh))
theorem pursR_all' {ds : List D} {h : Hp} {K : List Pd × Hp → Prop} (hh : (pursR h ds).all K) : pursD h ds (fun x h => K (x, h)) := pursR_all (k := fun x h => K (x, h)) hh
def srcR (h : Hp) (d : D) : Rs (List (List Pd)) :=
  match d with
  | .p (.sl ys) => .ret True ys
  | .p (.str l) => .ret True (encB l)
  | .cl ys => .ret True ys
  | .ref id off len N => match get h id with
    | some (.arr _ _ es) => .ret (N = es.length) ((es.drop off).take len)
    | some (.fro _ es) => .ret (N = es.length) ((es.drop off).take len)
    | _ => .fail
  | _ => .fail
theorem srcR_all {h : Hp} {d : D} {k : List (List Pd) → Prop} (hh : (srcR h d).all k) : srcD h d k := by
  unfold srcR at hh; unfold srcD
  split at hh
  · exact hh.2
  · exact hh.2
  · exact hh.2
  · split at hh
    · rename_i h1; simp only [h1]; exact hh
    · rename_i h1; simp only [h1]; exact hh
    · exact hh.elim
  · exact hh.elim
def stopAt {α : Type} : Nat → Rs α → Rs α
  | 0, r => r
  | _ + 1, _ => .fail
theorem stopAt_all {α : Type} {n : Nat} {r : Rs α} {k : α → Prop} (h : (stopAt n r).all k) : n = 0 ∧ r.all k := by
  cases n with
  | zero => exact ⟨rfl, h⟩
  | succ n => exact h.elim
theorem stopAt_of {α : Type} {n : Nat} {r : Rs α} {k : α → Prop} (h0 : n = 0) (h : r.all k) : (stopAt n r).all k := by
  subst h0; exact h
def appR (P : Program) (h : Hp) (q : Nat) (t t2 : TypeId) (s x : D) : Rs (D × Hp) :=
  match tiOf P t, tiOf P t2 with
  | some ⟨_, _, .slice e, _⟩, some ti2 => match tiOf P e with
    | some ti => (srcR h x).bind fun ys => match s with
      | .cl es => .ret ((match ti2.k with | .slice _ => True | .string => True | _ => False) ∧ Wid ti.size ys ∧ 0 < ti.size ∧ ti.zero.cells.length = ti.size ∧
            get h q = none ∧ (es = [] ∨ ys ≠ []) ∧ Wid ti.size es ∧ (es.length + ys.length) * ti.bytes ≤ 140737488355328 ∧ es.length + ys.length ≤ 140737488355328)
          (.ref q 0 (es ++ ys).length (es ++ ys).length, (q, .arr e ti.size (es ++ ys)) :: h)
      | .cz es => .split ys.isEmpty (.ret ((match ti2.k with | .slice _ => True | .string => True | _ => False) ∧ Wid ti.size ys ∧ 0 < ti.size ∧ ti.zero.cells.length = ti.size ∧ Wid ti.size es) (.cz es, h))
          (.ret ((match ti2.k with | .slice _ => True | .string => True | _ => False) ∧ Wid ti.size ys ∧ 0 < ti.size ∧ ti.zero.cells.length = ti.size ∧
            get h q = none ∧ Wid ti.size es ∧ (es.length + ys.length) * ti.bytes ≤ 140737488355328 ∧ es.length + ys.length ≤ 140737488355328)
          (.ref q 0 (es ++ ys).length (es ++ ys).length, (q, .arr e ti.size (es ++ ys)) :: h))
      | .ref id off len N => stopAt off (match get h id with
        | some (.arr e' sz es) => .ret ((match ti2.k with | .slice _ => True | .string => True | _ => False) ∧ Wid ti.size ys ∧ 0 < ti.size ∧ ti.zero.cells.length = ti.size ∧
            off = 0 ∧ N = es.length ∧ len = es.length ∧ e' = e ∧ sz = ti.size ∧ (es.length + ys.length) * ti.bytes ≤ 140737488355328 ∧ es.length + ys.length ≤ 140737488355328)
          (.ref id 0 (es ++ ys).length (es ++ ys).length, setL h id (.arr e sz (es ++ ys)))
        | _ => .fail)
      | .nr id i len kk => match get h id with
        | some (.nst t3 e' sz k2 rows none) => .ret ((match ti2.k with | .slice _ => True | .string => True | _ => False) ∧ Wid ti.size ys ∧ 0 < ti.size ∧ ti.zero.cells.length = ti.size ∧
            (e' = e ∧ sz = ti.size ∧ kk = k2 ∧ len = (rows.getD i []).length ∧ i < rows.length ∧ get h q = none) ∧ (len + ys.length) * ti.bytes ≤ 140737488355328 ∧ len + ys.length ≤ 140737488355328)
          (.ref q 0 (rows.getD i [] ++ ys).length (rows.getD i [] ++ ys).length, (q, .arr e sz (rows.getD i [] ++ ys)) :: setL h id (.nst t3 e' sz (k2 + 1) rows (some i)))
        | _ => .fail
      | _ => .fail
    | none => .fail
  | _, _ => .fail
theorem srcD_mono {h : Hp} {d : D} {k k' : List (List Pd) → Prop} (hk : ∀ x, k x → k' x) (hh : srcD h d k) : srcD h d k' := by
  unfold srcD at *
  split at hh
  · exact hk _ hh
  · exact hk _ hh
  · exact hk _ hh
  · split at hh
    · exact ⟨hh.1, hk _ hh.2⟩
    · exact ⟨hh.1, hk _ hh.2⟩
    · exact hh.elim
  · exact hh.elim
theorem srcD_and {h : Hp} {d : D} {q : Prop} {k : List (List Pd) → Prop} (hh : srcD h d (fun ys => q ∧ k ys)) : q ∧ srcD h d k := by
  unfold srcD at *
  split at hh
  · exact hh
  · exact hh
  · exact hh
  · split at hh
    · exact ⟨hh.2.1, hh.1, hh.2.2⟩
    · exact ⟨hh.2.1, hh.1, hh.2.2⟩
    · exact hh.elim
  · exact hh.elim
theorem appR_all {P : Program} {h : Hp} {q : Nat} {t t2 : TypeId} {s x : D} {k : D → Hp → Prop} (hh : (appR P h q t t2 s x).all (fun x => k x.1 x.2)) : appD P h q t t2 s x k := by
  unfold appR at hh; unfold appD
  split at hh
  case h_2 => exact hh.elim
  rename_i h1 h2
  simp only [h1, h2]
  split at hh
  case h_2 => exact hh.elim
  rename_i h3
  simp only [h3]
  refine srcD_and (srcD_mono (fun ys hy => ?_) (srcR_all (Rs.all_bind hh)))
  split at hy
  · obtain ⟨⟨a1, a2, a3, a4, a5, a6, a7, a8, a9⟩, hk⟩ := hy
    exact ⟨a1, a2, a3, a4, a5, a6, a7, a8, a9, hk⟩
  · rename_i es
    cases hb : ys.isEmpty with
    | true =>
      obtain ⟨⟨a1, a2, a3, a4, a5⟩, hk⟩ := hy.1 hb
      refine ⟨a1, a2, a3, a4, ?_⟩
      simp only [hb, WIf_true]
      exact ⟨a5, hk⟩
    | false =>
      obtain ⟨⟨a1, a2, a3, a4, a5, a7, a8, a9⟩, hk⟩ := hy.2 hb
      refine ⟨a1, a2, a3, a4, ?_⟩
      simp only [hb, WIf_false]
      exact ⟨a5, a7, a8, a9, hk⟩
  · have hy := (stopAt_all hy).2
    split at hy
    · rename_i h4
      obtain ⟨⟨a1, a2, a3, a4, a5, a6, a7, a8, a9, a10, a11⟩, hk⟩ := hy
      simp only [h4]
      exact ⟨a1, a2, a3, a4, a5, a6, a7, a8, a9, a10, a11, hk⟩
    · exact hy.elim
  · split at hy
    · rename_i h4
      obtain ⟨⟨a1, a2, a3, a4, a5, a6, a7⟩, hk⟩ := hy
      simp only [h4]
      exact ⟨a1, a2, a3, a4, a5, a6, a7, hk⟩
    · exact hy.elim
  · exact hy.elim
def nstStoreR (h : Hp) (id i n : Nat) (v : D) : Rs Hp :=
  match v with
  | .ref q off len N => match get h q, get h id with
    | some (.arr e2 sz2 es), some (.nst t e sz k2 rows hole) => .ret (off = 0 ∧ e2 = e ∧ sz2 = sz ∧ N = es.length ∧ len = N ∧ n = rows.length ∧ (hole = none ∨ hole = some i))
        (setL (setL h id (.nst t e sz (nstK hole k2) (rows.set i es) none)) q (.sem (deadO (.arr sz (es.length + 1)))))
    | _, _ => .fail
  | _ => .fail
theorem nstStoreR_all {h : Hp} {id i n : Nat} {v : D} {k : Hp → Prop} (hh : (nstStoreR h id i n v).all k) : nstStore h id i n v k := by
  unfold nstStoreR at hh; unfold nstStore
  split at hh
  · split at hh
    · rename_i h1 h2; simp only [h1, h2]; exact hh
    · exact hh.elim
  · exact hh.elim
def storeR (P : Program) (h : Hp) (t : TypeId) (a v : D) : Rs Hp :=
  match tiOf P t with
  | some ti => match v.stored with
    | some cs => match a with
      | .ptr id off => match get h id with
        | some (.box bs ty) => .ret (cs.length = ti.size ∧ off + cs.length ≤ bs.length) (setL h id (.box (bs.take off ++ cs ++ bs.drop (off + cs.length)) (keepT ty (bs.take off ++ cs ++ bs.drop (off + cs.length)))))
        | _ => .fail
      | .ea id i c N => (pursR h cs).bind fun y => match get y.2 id with
        | some (.arr e sz es) => .ret (cs.length = ti.size ∧ N = es.length ∧ c + y.1.length ≤ sz) (setL y.2 id (.arr e sz (es.set i ((es.getD i []).take c ++ y.1 ++ (es.getD i []).drop (c + y.1.length)))))
        | _ => .fail
      | .nea id i n => (nstStoreR h id i n v).and (cs.length = ti.size)
      | _ => .fail
    | none => .fail
  | none => .fail
theorem pursD_and : ∀ {ds : List D} {h : Hp} {q : Prop} {k : List Pd → Hp → Prop}, pursD h ds (fun x h => q ∧ k x h) → q ∧ pursD h ds k
  | [], h, q, k, hh => hh
  | d :: r, h, q, k, hh => by
    have h1 : purD h d (fun x h' => q ∧ pursD h' r fun xs h'' => k (x :: xs) h'') := purD_mono (fun x h' h2 => pursD_and h2) hh
    simp only [pursD]
    unfold purD at h1 ⊢
    cases d with
    | p x => exact h1
    | cl es => exact h1
    | cz es => exact h1
    | ref id off len N =>
      simp only at h1 ⊢
      split at h1
      · rename_i h2; exact ⟨h1.2.1, h1.1, h1.2.2⟩
      · rename_i h2; exact ⟨h1.2.1, h1.1, h1.2.2⟩
      · exact h1.elim
    | nref id n =>
      simp only at h1 ⊢
      split at h1
      · rename_i h2; exact ⟨h1.2.1, h1.1, h1.2.2⟩
      · exact h1.elim
    | _ => exact h1.elim
theorem storeR_all {P : Program} {h : Hp} {t : TypeId} {a v : D} {k : Hp → Prop} (hh : (storeR P h t a v).all k) : storeD P h t a v k := by
  unfold storeR at hh; unfold storeD
  split at hh
  case h_2 => exact hh.elim
  rename_i h1
  simp only [h1]
  split at hh
  case h_2 => exact hh.elim
  rename_i h2
  simp only [h2]
  split at hh
  · split at hh
    · rename_i h3; simp only [h3]; exact ⟨hh.1.1, hh.1.2, hh.2⟩
    · exact hh.elim
  · refine pursD_and (pursD_mono (fun x h' hx => ?_) (pursR_all' (Rs.all_bind hh)))
    simp only at hx
    split at hx
    · rename_i h3; simp only [h3]; exact ⟨hx.1.1, hx.1.2.1, hx.1.2.2, hx.2⟩
    · exact hx.elim
  · exact ⟨(Rs.all_and' hh).1, nstStoreR_all (Rs.all_and' hh).2⟩
  · exact hh.elim
def TK.isSl : TK → Bool
  | .slice _ => true
  | _ => false
def D.isNilS : D → Bool
  | .cl [] => true
  | _ => false
def nilRows (ti : TI) (cs : List D) : Bool := ti.k.isSl && (!cs.isEmpty && cs.all D.isNilS)
def mOpR (P : Program) (st : St) (q : Nat) (op : Op) : Rs (D × Hp) :=
  match op with
  | .alloc t => match tiOf P t with
    | some ti => match ti.zero.stored with
      | some cs => .ret (get st.hp q = none) (.ptr q 0, (q, .box cs (npT t cs)) :: st.hp)
      | none => .fail
    | none => .fail
  | .box _ x => match (ev st x).stored with
    | some cs => .ret (get st.hp q = none) (.ptr q 0, (q, .box cs) :: st.hp)
    | none => .fail
  | .store t a x => (storeR P st.hp t (ev st a) (ev st x)).bind fun h => .ret True (.tup [], h)
  | .makeMap _ none => .ret (get st.hp q = none) (.mv q, (q, .mp []) :: st.hp)
  | .mapUpdate t m i x => (mapUpR P st.hp t (ev st m) (ev st i) (ev st x)).bind fun h => .ret True (.tup [], h)
  | .buildSlice t n parts => match tiOf P t with
    | some ⟨_, _, .slice e, _⟩ => match tiOf P e with
      | some ti => match fillD (fun i => some (i * ti.size, ti.size)) (List.replicate (n * ti.size) .bad) (parts.toList.map fun q => (q.1, ev st q.2)) with
        | some cs => if nilRows ti cs = true then .fail else (pursR st.hp cs).bind fun y => .ret (0 < ti.size ∧ n * ti.size ≤ 16777216 ∧ get y.2 q = none) (.ref q 0 n n, (q, .arr e ti.size (chunk ti.size n y.1)) :: y.2)
        | none => .fail
      | none => .fail
    | _ => .fail
  | .makeSlice t l m => match tiOf P t, ev st l, ev st m with
    | some ⟨_, _, .slice e, _⟩, .p (.int _ l), .p (.int _ m) => match tiOf P e with
      | some ti => if ti.k.isSl = true then .fail else (pursR [] ti.zero.cells).bind fun y => .ret (0 < ti.size ∧ get st.hp q = none ∧ (0 ≤ l ∧ l ≤ m ∧ m * ti.bytes ≤ 140737488355328 ∧ m ≤ 140737488355328) ∧ ti.zero.cells.length = ti.size)
          (.ref q 0 l.toNat l.toNat, (q, .arr e ti.size (List.replicate l.toNat y.1)) :: st.hp)
      | none => .fail
    | _, _, _ => .fail
  | _ => .fail
theorem mOpR_all {P : Program} {st : St} {q : Nat} {op : Op} {k : D → Hp → Prop} (hh : (mOpR P st q op).all (fun x => k x.1 x.2)) : mOp P st q op k := by
  unfold mOpR at hh; unfold mOp
  split at hh
  · split at hh
    · rename_i h1; simp only [h1]
      split at hh
      · rename_i h2; simp only [h2]; exact hh
      · exact hh.elim
    · exact hh.elim
  · split at hh
    · rename_i h2; simp only [h2]; exact hh
    · exact hh.elim
  · exact storeR_all (Rs.all_mono (fun h hx => hx.2) (Rs.all_bind hh))
  · exact hh
  · exact mapUpR_all (Rs.all_mono (fun h hx => hx.2) (Rs.all_bind hh))
  · split at hh
    · rename_i h1; simp only [h1]
      split at hh
      · rename_i h2; simp only [h2]
        split at hh
        · rename_i h3; simp only [h3]
          split at hh
          · exact hh.elim
          have h4 := pursD_mono (k' := fun y h => _ ∧ _ ∧ get h q = none ∧ k _ _) (fun y h hy => ⟨hy.1.1, hy.1.2.1, hy.1.2.2, hy.2⟩) (pursR_all' (Rs.all_bind hh))
          have h5 := pursD_and h4
          have h6 := pursD_and h5.2
          exact ⟨h5.1, h6.1, h6.2⟩
        · exact hh.elim
      · exact hh.elim
    · exact hh.elim
  · split at hh
    · rename_i h1 h2 h3; simp only [h1, h2, h3]
      split at hh
      · rename_i h4; simp only [h4]
        split at hh
        · exact hh.elim
        have h5 := pursD_mono (k' := fun y h => _ ∧ _ ∧ _ ∧ _ ∧ k _ _) (fun y h hy => ⟨hy.1.1, hy.1.2.1, hy.1.2.2.1, hy.1.2.2.2, hy.2⟩) (pursR_all' (Rs.all_bind hh))
        have h6 := pursD_and h5
        have h7 := pursD_and h6.2
        have h8 := pursD_and h7.2
        have h9 := pursD_and h8.2
        exact ⟨h6.1, h7.1, h8.1, h9.1, h9.2⟩
      · exact hh.elim
    · exact hh.elim
  · exact hh.elim
def borR (h : Hp) (d : D) : Rs (D × Hp) :=
  match d with
  | .ref id off len N => match get h id with
    | some (.arr _ _ es) => .ret (N = es.length) (.p (.sl ((es.drop off).take len)), froze h id)
    | some (.fro _ es) => .ret (N = es.length) (.p (.sl ((es.drop off).take len)), h)
    | _ => .fail
  | .nref id n => match get h id with
    | some (.nst _ _ sz kk rows none) => .ret (n = rows.length) (.p (.sl (rows.map fun r => [.sl r])), setL h id (.sem (deadO (.nst sz rows.length kk))))
    | _ => .fail
  | .cl es => .ret True (.p (.sl es), h)
  | d => .ret True (d, h)
theorem borR_all {h : Hp} {d : D} {k : D → Hp → Prop} (hh : (borR h d).all (fun x => k x.1 x.2)) : bor h d k := by
  cases d with
  | ref id off len N =>
    simp only [borR] at hh
    simp only [bor]
    split at hh
    · exact hh
    · exact hh
    · exact hh.elim
  | nref id n =>
    simp only [borR] at hh
    simp only [bor]
    split at hh
    · exact hh
    · exact hh.elim
  | cl es => exact hh.2
  | _ => exact hh.2
mutual
def borDR (h : Hp) (d : D) : Rs (D × Hp) :=
  match d with
  | .agg cs => (borDsR h cs).bind fun x => .ret True (.agg x.1, x.2)
  | .tup cs => (borDsR h cs).bind fun x => .ret True (.tup x.1, x.2)
  | d => borR h d
def borDsR : Hp → List D → Rs (List D × Hp)
  | h, [] => .ret True ([], h)
  | h, d :: r => (borDR h d).bind fun x => (borDsR x.2 r).bind fun y => .ret True (x.1 :: y.1, y.2)
end
mutual
theorem borDR_all : ∀ {d : D} {h : Hp} {k : D → Hp → Prop}, (borDR h d).all (fun x => k x.1 x.2) → borD h d k
  | .agg cs, h, k, hh => by simp only [borDR] at hh; simp only [borD]; exact borDsR_all (Rs.all_mono (fun x hx => hx.2) (Rs.all_bind hh))
  | .tup cs, h, k, hh => by simp only [borDR] at hh; simp only [borD]; exact borDsR_all (Rs.all_mono (fun x hx => hx.2) (Rs.all_bind hh))
  | .p _, h, k, hh => by simp only [borDR] at hh; simp only [borD]; exact borR_all hh
  | .cl _, h, k, hh => by simp only [borDR] at hh; simp only [borD]; exact borR_all hh
  | .cz _, h, k, hh => by simp only [borDR] at hh; simp only [borD]; exact borR_all hh
  | .ref _ _ _ _, h, k, hh => by simp only [borDR] at hh; simp only [borD]; exact borR_all hh
  | .ptr _ _, h, k, hh => by simp only [borDR] at hh; simp only [borD]; exact borR_all hh
  | .pe _, h, k, hh => by simp only [borDR] at hh; simp only [borD]; exact borR_all hh
  | .ea _ _ _ _, h, k, hh => by simp only [borDR] at hh; simp only [borD]; exact borR_all hh
  | .fn _ _, h, k, hh => by simp only [borDR] at hh; simp only [borD]; exact borR_all hh
  | .np, h, k, hh => by simp only [borDR] at hh; simp only [borD]; exact borR_all hh
  | .mv _, h, k, hh => by simp only [borDR] at hh; simp only [borD]; exact borR_all hh
  | .nref _ _, h, k, hh => by simp only [borDR] at hh; simp only [borD]; exact borR_all hh
  | .nea _ _ _, h, k, hh => by simp only [borDR] at hh; simp only [borD]; exact borR_all hh
  | .nr _ _ _ _, h, k, hh => by simp only [borDR] at hh; simp only [borD]; exact borR_all hh
  | .unk, h, k, hh => by simp only [borDR] at hh; simp only [borD]; exact borR_all hh
  | .bad, h, k, hh => by simp only [borDR] at hh; simp only [borD]; exact borR_all hh
theorem borDsR_all : ∀ {ds : List D} {h : Hp} {k : List D → Hp → Prop}, (borDsR h ds).all (fun x => k x.1 x.2) → borDs h ds k
  | [], h, k, hh => by simp only [borDsR] at hh; simp only [borDs]; exact hh.2
  | d :: r, h, k, hh => by
    simp only [borDsR] at hh
    simp only [borDs]
    exact borDR_all (Rs.all_mono (fun x h1 => borDsR_all (Rs.all_mono (fun y h2 => h2.2) (Rs.all_bind h1))) (Rs.all_bind hh))
end
def lenR (P : Program) (h : Hp) (t : TypeId) (x : D) : Rs D :=
  match tiOf P t with
  | some ti => match ti.k, x with
    | .string, .p (.str l) => .ret True (.p (.int .i64 l.length))
    | .slice _, .p (.sl es) => .ret True (.p (.int .i64 es.length))
    | .slice _, .cl es => .ret True (.p (.int .i64 es.length))
    | .slice _, .ref id _ len N => .ret (curR h id N) (.p (.int .i64 len))
    | .slice _, .nref _ n => .ret True (.p (.int .i64 n))
    | .slice _, .nr _ _ len _ => .ret True (.p (.int .i64 len))
    | .array n _, _ => .ret True (.p (.int .i64 n))
    | _, _ => .fail
  | none => .fail
theorem lenR_all {P : Program} {h : Hp} {t : TypeId} {x : D} {k : D → Prop} (hh : (lenR P h t x).all k) : lenD P h t x k := by
  unfold lenR at hh; unfold lenD
  split at hh
  case h_2 => exact hh.elim
  try simp only [*]
  split at hh
  · first | exact hh.2 | (simp only [*]; exact hh.2)
  · first | exact hh.2 | (simp only [*]; exact hh.2)
  · first | exact hh.2 | (simp only [*]; exact hh.2)
  · first | exact hh | (simp only [*]; exact hh)
  · first | exact hh.2 | (simp only [*]; exact hh.2)
  · first | exact hh.2 | (simp only [*]; exact hh.2)
  · first | exact hh.2 | (simp only [*]; exact hh.2)
  · exact hh.elim
def copyR (P : Program) (h : Hp) (t : TypeId) (s x : D) : Rs (D × Hp) :=
  match tiOf P t with
  | some ⟨_, _, .slice e, _⟩ => match tiOf P e with
    | some ti => (srcR h x).bind fun ys => match s with
      | .ref id off len N => match get h id with
        | some (.arr e' sz es) => .ret (Wid ti.size ys ∧ 0 < ti.size ∧ N = es.length ∧ off + len ≤ N ∧ sz = ti.size)
            (.p (.int .i64 ((min len ys.length : Nat) : Int)), setL h id (.arr e' sz (es.take off ++ ys.take len ++ es.drop (off + min len ys.length))))
        | _ => .fail
      | _ => .fail
    | none => .fail
  | _ => .fail
theorem copyR_all {P : Program} {h : Hp} {t : TypeId} {s x : D} {k : D → Hp → Prop} (hh : (copyR P h t s x).all (fun x => k x.1 x.2)) : copyD P h t s x k := by
  unfold copyR at hh; unfold copyD
  split at hh
  case h_2 => exact hh.elim
  rename_i h1
  rw [h1]
  simp only
  split at hh
  case h_2 => exact hh.elim
  rename_i ti h2
  rw [h2]
  simp only
  refine srcD_mono (fun ys hy => ?_) (srcR_all (Rs.all_bind hh))
  split at hy
  case h_2 => exact hy.elim
  split at hy
  case h_2 => exact hy.elim
  obtain ⟨⟨g1, g2, g3, g4, g5⟩, g6⟩ := hy
  rename_i h3
  exact ⟨fun y hy => g1 y hy, g2, by simp only [h3]; exact ⟨g3, g4, g5, g6⟩⟩
def builtinR (P : Program) (st : St) (q : Nat) (b : Builtin) (ts : Array TypeId) (args : List D) : Rs (D × Hp) :=
  match b, args with
  | .len, [x] => match ts[0]? with
    | some t => (lenR P st.hp t x).bind fun d => .ret True (d, st.hp)
    | none => .fail
  | .append, [s, x] => match ts[0]?, ts[1]? with
    | some t, some t2 => appR P st.hp q t t2 s x
    | _, _ => .fail
  | .copy, [s, x] => match ts[0]?, ts[1]? with
    | some t, some _ => copyR P st.hp t s x
    | _, _ => .fail
  | .min, [.p (.int k1 x), .p (.int k2 y)] => .ret (k1 = k2) (.p (.int k1 (if y < x then y else x)), st.hp)
  | .max, [.p (.int k1 x), .p (.int k2 y)] => .ret (k1 = k2) (.p (.int k1 (if x < y then y else x)), st.hp)
  | .min, [.p (.int k1 x), .p (.int k2 y), .p (.int k3 z)] => .ret (k1 = k2 ∧ k2 = k3) (.p (.int k1 (if z < (if y < x then y else x) then z else (if y < x then y else x))), st.hp)
  | _, _ => .fail
theorem builtinR_all {P : Program} {st : St} {q : Nat} {b : Builtin} {ts : Array TypeId} {args : List D} {k : D → Hp → Prop} (hh : (builtinR P st q b ts args).all (fun x => k x.1 x.2)) :
    builtinD P st q b ts args k := by
  unfold builtinR at hh; unfold builtinD
  split at hh
  · split at hh
    · first | exact lenR_all (Rs.all_mono (fun x hx => hx.2) (Rs.all_bind hh)) | (simp only [*]; exact lenR_all (Rs.all_mono (fun x hx => hx.2) (Rs.all_bind hh)))
    · exact hh.elim
  · split at hh
    · first | exact appR_all hh | (simp only [*]; exact appR_all hh)
    · exact hh.elim
  · split at hh
    · first | exact copyR_all hh | (simp only [*]; exact copyR_all hh)
    · exact hh.elim
  · exact hh
  · exact hh
  · exact hh
  · exact hh.elim
end Go.Am
namespace Go.Am
open Go
mutual
def D.ren (ρ : Nat → Option Nat) : D → D
  | .p x => .p x
  | .agg cs => .agg (renL ρ cs)
  | .tup cs => .tup (renL ρ cs)
  | .cl es => .cl es
  | .cz es => .cz es
  | .ref id off len N => match ρ id with | some j => .ref j off len N | none => .bad
  | .ptr id off => match ρ id with | some j => .ptr j off | none => .bad
  | .pe cs => .pe cs
  | .ea id i c N => match ρ id with | some j => .ea j i c N | none => .bad
  | .fn f cap => .fn f (renL ρ cap)
  | .np => .np
  | .mv id => match ρ id with | some j => .mv j | none => .bad
  | .nref id n => match ρ id with | some j => .nref j n | none => .bad
  | .nea id i n => match ρ id with | some j => .nea j i n | none => .bad
  | .nr id i len k => match ρ id with | some j => .nr j i len k | none => .bad
  | .unk => .unk
  | .bad => .bad
def renL (ρ : Nat → Option Nat) : List D → List D
  | [] => []
  | d :: r => D.ren ρ d :: renL ρ r
end
def AO.ren (ρ : Nat → Option Nat) : AO → AO
  | .box cs t => .box (renL ρ cs) t
  | .arx t sz es i c d => .arx t sz es i c (d.ren ρ)
  | o => o
mutual
def D.ids : D → List Nat
  | .ref id _ _ _ | .ptr id _ | .ea id _ _ _ | .mv id | .nref id _ | .nea id _ _ | .nr id _ _ _ => [id]
  | .agg cs | .tup cs | .fn _ cs => idsL cs
  | _ => []
def idsL : List D → List Nat
  | [] => []
  | d :: r => D.ids d ++ idsL r
end
def addNew (T : List Nat) : List Nat → List Nat
  | [] => T
  | i :: r => if i ∈ T then addNew T r else addNew (T ++ [i]) r
def AO.ids : AO → List Nat
  | .box cs _ => idsL cs
  | .arx _ _ _ _ _ d => d.ids
  | _ => []
def idsAt (h : Hp) : List Nat → List Nat
  | [] => []
  | i :: r => (match get h i with | some o => o.ids | none => []) ++ idsAt h r
def ghost (h : Hp) (id : Nat) : List Nat := match get h id with
  | some (.glob _ _) => [id]
  | _ => []
def ghosts (h : Hp) : List Nat := ghost h base ++ (ghost h (base + 1) ++ (ghost h (base + 2) ++ ghost h (base + 3)))
def closeT (h : Hp) (ids : List Nat) : List Nat :=
  let t0 := addNew [] ids
  let t1 := addNew t0 (idsAt h t0)
  addNew (addNew t1 (idsAt h t1)) (ghosts h)
def idx : List Nat → Nat → Nat → Option Nat
  | [], _, _ => none
  | x :: r, k, id => if x = id then some k else idx r (k + 1) id
def sub (h : Hp) (ρ : Nat → Option Nat) : Nat → List Nat → Hp
  | _, [] => []
  | k, id :: r => match get h id with
    | some o => (k, o.ren ρ) :: sub h ρ (k + 1) r
    | none => sub h ρ (k + 1) r
def back (T : List Nat) (q j : Nat) : Option Nat := if base ≤ j then T[j - base]? else some (10000 * (j + 1) + q)
def merge (T : List Nat) (q : Nat) (h : Hp) : Hp → Hp
  | [] => h
  | (j, o) :: r => match back T q j with
    | some id => setL (merge T q h r) id (o.ren (back T q))
    | none => merge T q h r
def fresh (q : Nat) (h : Hp) : Hp → Prop
  | [] => True
  | (j, _) :: r => (base ≤ j ∨ get h (10000 * (j + 1) + q) = none) ∧ fresh q h r
def Enters (P : Program) (f : FuncId) : Prop := ∀ args w, (callFunc f args).run P w = .ok (.enter f args) w
def Runs (P : Program) (f : FuncId) (vs : Array Value) (w : World) (Post : Ending → World → Prop) : Prop :=
  ((callFunc f vs).run P w = .ok (.enter f vs) w ∧ Calls P f vs w Post) ∨ ∃ v w', (callFunc f vs).run P w = .ok (.value v) w' ∧ Post (.returned v) w'
theorem Runs.mono {P : Program} {f : FuncId} {vs : Array Value} {w : World} {Q Q' : Ending → World → Prop} (h : Runs P f vs w Q) (hq : ∀ e w', Q e w' → Q' e w') : Runs P f vs w Q' := by
  rcases h with ⟨h1, h2⟩ | ⟨v, w', h1, h2⟩
  · exact .inl ⟨h1, h2.mono hq⟩
  · exact .inr ⟨v, w', h1, hq _ _ h2⟩
def ACalls (P : Program) (f : FuncId) (args : List D) (h : Hp) (R : Hp → D → Prop) : Prop :=
  ∀ (vs : Array Value) (w : World) (F : Nat → Prop) (M : Nat → Mb), HR F w M h → (∀ b, F b → b < w.heap.size) → (∀ id, sg h id ≠ none → base ≤ id) → DRl F w M (sg h) args vs.toList →
    Runs P f vs w fun e w' => ∃ v h' r F' M', e = .returned v ∧ R h' r ∧ HR F' w' M' h' ∧ DR F' w' M' (sg h') r v ∧ Keep ⟨w, F, Owned M h, M, sg h⟩ w' F' M' h'
theorem ACalls.mono {P : Program} {f : FuncId} {args : List D} {h : Hp} {R R' : Hp → D → Prop} (hc : ACalls P f args h R) (hR : ∀ h' r, R h' r → R' h' r) : ACalls P f args h R' :=
  fun vs w F M h1 h2 h2' h3 => (hc vs w F M h1 h2 h2' h3).mono fun _ _ ⟨v, h', r, F', M', h4, h5, h6⟩ => ⟨v, h', r, F', M', h4, hR _ _ h5, h6⟩
def callD (P : Program) (h : Hp) (f : FuncId) (ds : List D) (q : Nat) (k : D → Hp → Prop) : Prop :=
  let T := closeT h (idsL ds)
  T.Nodup ∧ (T.all fun id => (get h id).isSome) = true ∧
  ACalls P f (renL (idx T base) ds) (sub h (idx T base) base T) fun h' r => fresh q h h' ∧ k (r.ren (back T q)) (merge T q h h')
def doR (P : Program) (st : St) (o : Oper) : Rs (D × Hp) :=
  match o.op with
  | .call c => match c.callee with
    | .builtin b => builtinR P st (o.dst.getD 0) b c.argTypes (c.args.toList.map (ev st))
    | _ => .fail
  | .alloc _ | .box _ _ | .store _ _ _ | .buildSlice _ _ _ | .makeSlice _ _ _ | .makeMap _ _ | .mapUpdate _ _ _ _ => mOpR P st (o.dst.getD 0) o.op
  | op => (vOpR P st op).bind fun d => .ret True (d, st.hp)
def callR (st : St) (f : Operand) (args : List Operand) : Rs (FuncId × List D × Hp) :=
  match ev st f with
  | .fn g cap => (borDsR st.hp (args.map (ev st) ++ cap)).bind fun x => .ret True (g, x.1, x.2)
  | _ => .fail
def isCall (o : Op) : Option (Operand × List Operand) :=
  match o with
  | .call c => match c.callee with
    | .value f => some (f, c.args.toList)
    | _ => none
  | _ => none
def Good (c : Ctx) (K : St → Prop) : Act → World → Prop := fun a w => ∃ st F M, K st ∧ Rel c st a w F M
def SemOp (P : Program) (o : Oper) (K : St → Prop) (st : St) : Prop :=
  ∀ c a w F M (Q : Exit → Act → World → Prop), Rel c st a w F M → o.wp P a w (Good c K) Q
def callDO (S : Prop) (P : Program) (h : Hp) (f : FuncId) (ds : List D) (q : Nat) (k : D → Hp → Prop) : Prop :=
  let T := closeT h (idsL ds)
  T.Nodup ∧ (T.all fun id => (get h id).isSome) = true ∧
  (ACalls P f (renL (idx T base) ds) (sub h (idx T base) base T) (fun h' r => fresh q h h' ∧ k (r.ren (back T q)) (merge T q h h')) ∨ S)
theorem callDO_of {S : Prop} {P : Program} {h : Hp} {f : FuncId} {ds : List D} {q : Nat} {k : D → Hp → Prop} (hh : callDO S P h f ds q k) : callD P h f ds q k ∨ S := by
  obtain ⟨h1, h2, h3⟩ := hh
  rcases h3 with h3 | h3
  · exact .inl ⟨h1, h2, h3⟩
  · exact .inr h3
theorem callDO_in {S : Prop} {P : Program} {h : Hp} {f : FuncId} {ds : List D} {q : Nat} {k : D → Hp → Prop} (hh : callD P h f ds q k) : callDO S P h f ds q k := ⟨hh.1, hh.2.1, .inl hh.2.2⟩
theorem callDO_false {X : Prop} {P : Program} {h : Hp} {f : FuncId} {ds : List D} {q : Nat} {k : D → Hp → Prop} : callDO (false = true ∧ X) P h f ds q k = callD P h f ds q k :=
  propext ⟨fun hh => (callDO_of hh).elim id fun h => (Bool.false_ne_true h.1).elim, callDO_in⟩
def wDo (P : Program) (s : Bool) (o : Oper) (K : St → Prop) (st : St) : Prop :=
  match isCall o.op with
  | some (f, args) => (callR st f args).allOr (s = true ∧ SemOp P o K st) fun x => callDO (s = true ∧ SemOp P o K st) P x.2.2 x.1 x.2.1 (o.dst.getD 0) fun d h' => K (({ st with hp := h' } : St).put o.dst d)
  | none => (doR P st o).allOr (s = true ∧ SemOp P o K st) fun x => K (({ st with hp := x.2 } : St).put o.dst x.1)
def guardD (st : St) (ops : List Oper) (g : Option (Nat × Bool)) (yes no : Prop) : Prop :=
  match g with
  | none => yes
  | some (j, want) => match ((ops[j]?).bind (·.dst)).bind (get st.env) with
    | some (.p (.bool b)) => WIf (b == want) yes no
    | some (.tup []) => no
    | _ => False
def wOps (P : Program) (s : Bool) (ops : List Oper) : List Oper → (St → Prop) → St → Prop
  | [], K, st => K st
  | o :: rest, K, st => guardD st ops o.guard (wDo P s o (wOps P s ops rest K) st) (wOps P s ops rest K (st.put o.dst (.tup [])))
def thn (K : St → Prop) (Q : Exit → St → Prop) : Exit → St → Prop
  | .normal, st => K st
  | e, st => Q e st
def blk (id : Nat) (Q : Exit → St → Prop) : Exit → St → Prop
  | .exit id', st => if id' = id then Q .normal st else Q (.exit id') st
  | e, st => Q e st
def Wk (st st1 : St) : Prop := ∀ c a w F M, Rel c st a w F M → ∃ F' M', Rel c st1 a w F' M'
def wLoop (body : (Exit → St → Prop) → St → Prop) (Q : Exit → St → Prop) : Nat → St → Prop
  | 0, _ => False
  | n + 1, st => ∃ st1, Wk st st1 ∧ body (thn (wLoop body Q n) Q) st1
def QC (c : Ctx) (Q : Exit → St → Prop) : Exit → Act → World → Prop := fun e a w => ∃ st F M, Q e st ∧ Rel c st a w F M
def ScopeA (P : Program) (x : Code) (Q : Exit → St → Prop) (st : St) : Prop :=
  ∀ c a w F M, Rel c st a w F M → (Code.scope x).wp P (QC c Q) a w
def DrawA (P : Program) (id : Nat) (ops : Array Oper) (Q : Exit → St → Prop) (st : St) : Prop :=
  ∀ c a w F M, Rel c st a w F M → (Code.region id ops true).wp P (QC c Q) a w
def wA (P : Program) : Code → (Exit → St → Prop) → St → Prop
  | .skip, Q, st => Q .normal st
  | .label _, Q, st => Q .normal st
  | .ret, Q, st => Q .ret st
  | .exit id, Q, st => Q (.exit id) st
  | .goto l, Q, st => Q (.goto l) st
  | .seq x y, Q, st => wA P x (thn (wA P y Q) Q) st
  | .cond c x y, Q, st => match ev st c with
    | .p (.bool b) => WIf b (wA P x Q st) (wA P y Q st)
    | _ => False
  | .block id x, Q, st => wA P x (blk id Q) st
  | .loop x, Q, st => ∃ n, wLoop (wA P x) Q n st
  | .scope x, Q, st => ScopeA P x Q st
  | .region id ops draw, Q, st => (draw = false ∧ wOps P true ops.toList ops.toList (Q .normal) st) ∨ (draw = true ∧ DrawA P id ops Q st)
  | _, _, _ => False
end Go.Am
namespace Go.Am
open Go
section
variable {P : Program} {c : Ctx} {st : St} {a : Act} {w : World} {F : Nat → Prop} {M : Nat → Mb}
theorem renL_get (ρ : Nat → Option Nat) : ∀ (cs : List D) (i : Nat), (renL ρ cs)[i]? = (cs[i]?).map (D.ren ρ)
  | [], i => by simp [renL]
  | d :: r, 0 => by simp [renL]
  | d :: r, i + 1 => by simp [renL, renL_get ρ r i]
theorem renL_length (ρ : Nat → Option Nat) : ∀ cs : List D, (renL ρ cs).length = cs.length
  | [] => rfl
  | d :: r => by simp [renL, renL_length ρ r]
theorem DR.ren {ρ : Nat → Option Nat} {M' : Nat → Mb} {s s' : Nat → Option Sg} {d : D} {v : Value} (h : DR F w M s d v)
    (hρ : ∀ id j, ρ id = some j → s id ≠ none → M' j = M id ∧ s' j = s id) : DR F w M' s' (d.ren ρ) v := by
  induction h with
  | p h => simp only [D.ren]; exact .p h
  | agg cs vs hl _ ih =>
    simp only [D.ren]
    refine .agg _ vs (by rw [renL_length]; exact hl) fun i e he => ?_
    rw [renL_get] at he
    cases hc : cs[i]? with
    | none => rw [hc] at he; cases he
    | some q => rw [hc] at he; cases he; exact ih i q hc
  | tup cs vs hl _ ih =>
    simp only [D.ren]
    refine .tup _ vs (by rw [renL_length]; exact hl) fun i e he => ?_
    rw [renL_get] at he
    cases hc : cs[i]? with
    | none => rw [hc] at he; cases he
    | some q => rw [hc] at he; cases he; exact ih i q hc
  | cl es a h hn => simp only [D.ren]; exact .cl es a h hn
  | cz es a h => simp only [D.ren]; exact .cz es a h
  | ref id off len N sz n v hs hN hv h2 =>
    simp only [D.ren]
    cases hj : ρ id with
    | none => exact .bad _
    | some j =>
      obtain ⟨h3, h4⟩ := hρ id j hj (by rw [hs]; simp)
      exact .ref j off len N sz n v (by rw [h4, hs]) hN hv (fun e => by rw [h3]; exact h2 e)
  | ptr id off hs =>
    simp only [D.ren]
    cases hj : ρ id with
    | none => exact .bad _
    | some j =>
      obtain ⟨h3, h4⟩ := hρ id j hj (by rw [hs]; simp)
      have := DR.ptr (F := F) (w := w) (M := M') (s := s') j off (by rw [h4, hs])
      rwa [h3] at this
  | pe cs b off row t fr hF hh hi hp => simp only [D.ren]; exact .pe cs b off row t fr hF hh hi hp
  | ea id i q N sz n v hs hN hv h2 =>
    simp only [D.ren]
    cases hj : ρ id with
    | none => exact .bad _
    | some j =>
      obtain ⟨h3, h4⟩ := hρ id j hj (by rw [hs]; simp)
      exact .ea j i q N sz n v (by rw [h4, hs]) hN hv (fun e => by rw [h3]; exact h2 e)
  | fn f cap vs hl _ ih =>
    simp only [D.ren]
    refine .fn f _ vs (by rw [renL_length]; exact hl) fun i e he => ?_
    rw [renL_get] at he
    cases hc : cap[i]? with
    | none => rw [hc] at he; cases he
    | some q => rw [hc] at he; cases he; exact ih i q hc
  | np => simp only [D.ren]; exact .np
  | mv id h1 =>
    simp only [D.ren]
    cases hj : ρ id with
    | none => exact .bad _
    | some j =>
      obtain ⟨h3, h4⟩ := hρ id j hj (by rw [h1]; simp)
      rw [← h3]
      exact .mv j (by rw [h4, h1])
  | nref id n sz m k v h1 hN hv h2 =>
    simp only [D.ren]
    cases hj : ρ id with
    | none => exact .bad _
    | some j =>
      obtain ⟨h3, h4⟩ := hρ id j hj (by rw [h1]; simp)
      exact .nref j n sz m k v (by rw [h4, h1]) hN hv (fun e => by rw [h3]; exact h2 e)
  | nea id i n sz m k b h1 hN hi h2 =>
    simp only [D.ren]
    cases hj : ρ id with
    | none => exact .bad _
    | some j =>
      obtain ⟨h3, h4⟩ := hρ id j hj (by rw [h1]; simp)
      exact .nea j i n sz m k b (by rw [h4, h1]) hN hi (fun e => by rw [h3]; exact h2 e)
  | nr id i len q sz m k v h1 hN hv h2 =>
    simp only [D.ren]
    cases hj : ρ id with
    | none => exact .bad _
    | some j =>
      obtain ⟨h3, h4⟩ := hρ id j hj (by rw [h1]; simp)
      exact .nr j i len q sz m k v (by rw [h4, h1]) hN hv (fun e => by rw [h3]; exact h2 e)
  | unk v h => simp only [D.ren]; exact .unk v h
  | bad v => simp only [D.ren]; exact .bad v
theorem DRl.ren {ρ : Nat → Option Nat} {M' : Nat → Mb} {s s' : Nat → Option Sg} {ds : List D} {vs : List Value} (h : DRl F w M s ds vs)
    (hρ : ∀ id j, ρ id = some j → s id ≠ none → M' j = M id ∧ s' j = s id) : DRl F w M' s' (renL ρ ds) vs :=
  ⟨by rw [renL_length]; exact h.1, fun i d hd => by
    rw [renL_get] at hd
    cases hc : ds[i]? with
    | none => rw [hc] at hd; cases hd
    | some q => rw [hc] at hd; cases hd; exact (h.2 i q hc).ren hρ⟩
theorem AO.ren_sg (ρ : Nat → Option Nat) (o : AO) : (o.ren ρ).sg = o.sg := by cases o <;> rfl
theorem AO.ren_owns (ρ : Nat → Option Nat) (o : AO) (m : Mb) (b : Nat) : (o.ren ρ).owns m b ↔ o.owns m b := by cases o <;> exact Iff.rfl
theorem ren_np (ρ : Nat → Option Nat) (d : D) : (d.ren ρ).isNp = d.isNp := by
  cases d with
  | ref id off len N => simp only [D.ren]; cases ρ id <;> rfl
  | ptr id off => simp only [D.ren]; cases ρ id <;> rfl
  | ea id i c N => simp only [D.ren]; cases ρ id <;> rfl
  | mv id => simp only [D.ren]; cases ρ id <;> rfl
  | nref id n => simp only [D.ren]; cases ρ id <;> rfl
  | nea id i n => simp only [D.ren]; cases ρ id <;> rfl
  | nr id i n k => simp only [D.ren]; cases ρ id <;> rfl
  | _ => rfl
theorem renL_np (ρ : Nat → Option Nat) : ∀ cs : List D, (renL ρ cs).any D.isNp = cs.any D.isNp
  | [] => rfl
  | d :: r => by simp only [renL, List.any_cons, ren_np, renL_np ρ r]
theorem ren_cl {ρ : Nat → Option Nat} {d : D} (h : d.ren ρ = .cl []) : d = .cl [] := by
  cases d with
  | ref id off len N => simp only [D.ren] at h; cases hr : ρ id <;> rw [hr] at h <;> cases h
  | ptr id off => simp only [D.ren] at h; cases hr : ρ id <;> rw [hr] at h <;> cases h
  | ea id i c N => simp only [D.ren] at h; cases hr : ρ id <;> rw [hr] at h <;> cases h
  | mv id => simp only [D.ren] at h; cases hr : ρ id <;> rw [hr] at h <;> cases h
  | nref id n => simp only [D.ren] at h; cases hr : ρ id <;> rw [hr] at h <;> cases h
  | nea id i n => simp only [D.ren] at h; cases hr : ρ id <;> rw [hr] at h <;> cases h
  | nr id i n k => simp only [D.ren] at h; cases hr : ρ id <;> rw [hr] at h <;> cases h
  | cl es => simpa only [D.ren] using h
  | _ => simp [D.ren] at h
theorem ObjR.ren {ρ : Nat → Option Nat} {M' : Nat → Mb} {s s' : Nat → Option Sg} {m : Mb} {o : AO} (h : ObjR F w M s m o)
    (hρ : ∀ id j, ρ id = some j → s id ≠ none → M' j = M id ∧ s' j = s id) : ObjR F w M' s' m (o.ren ρ) := by
  cases o with
  | box cs ty =>
    obtain ⟨h1, row, t, h2, h3, h4⟩ := h
    refine ⟨h1, row, t, h2, by rw [renL_length]; exact h3, fun j d hd => ?_, fun h5 h6 j hj => ?_⟩
    · rw [renL_get] at hd
      cases hc : cs[j]? with
      | none => rw [hc] at hd; cases hd
      | some q => rw [hc] at hd; cases hd; exact ⟨(h4.1 j q hc).1.ren hρ, (h4.1 j q hc).2⟩
    · refine h4.2 h5 (by rwa [renL_np] at h6) j ?_
      rw [renL_get] at hj
      cases hc : cs[j]? with
      | none => rw [hc] at hj; cases hj
      | some q =>
        rw [hc] at hj
        simp only [Option.map_some, Option.some.injEq] at hj
        rw [ren_cl hj]
  | arr t sz es => exact h
  | fro sz es => exact h
  | iter l pos => exact h
  | glob g cs => exact h
  | sem s => exact h
  | mp l => exact h
  | nst t e sz k rows hole => exact h
  | arx t sz es i c d =>
    obtain ⟨row, h1, h2, h3, h4, h5⟩ := ArxR.row h
    exact ⟨ArxR.pos h, ArxR.le h, ArxR.max h, ArxR.wid h, ArxR.at_ h, ArxR.nF h, row, h1, h2, h3, h4.ren hρ, h5⟩
theorem idx_spec : ∀ (T : List Nat) (k id j : Nat), idx T k id = some j → ∃ i, j = k + i ∧ T[i]? = some id
  | [], k, id, j, h => by simp [idx] at h
  | x :: r, k, id, j, h => by
    simp only [idx] at h
    split at h
    · rename_i e; cases h; exact ⟨0, by omega, by simp [e]⟩
    · obtain ⟨i, h1, h2⟩ := idx_spec r (k + 1) id j h
      exact ⟨i + 1, by omega, by simpa using h2⟩
theorem get_sub (h : Hp) (ρ : Nat → Option Nat) : ∀ (T : List Nat) (k j : Nat), get (sub h ρ k T) j = if k ≤ j then ((T[j - k]?).bind (get h)).map (AO.ren ρ) else none
  | [], k, j => by simp [sub, get]
  | id :: r, k, j => by
    have ih := get_sub h ρ r (k + 1) j
    by_cases e : k = j
    · subst e
      simp only [sub, Nat.le_refl, if_true, Nat.sub_self, List.getElem?_cons_zero, Option.bind_some]
      cases ho : get h id with
      | some o => simp [get_cons]
      | none => rw [ih, if_neg (by omega)]; simp
    · have : get (sub h ρ k (id :: r)) j = get (sub h ρ (k + 1) r) j := by
        simp only [sub]
        cases ho : get h id with
        | some o => rw [get_cons, if_neg e]
        | none => rfl
      rw [this, ih]
      by_cases h2 : k + 1 ≤ j
      · rw [if_pos h2, if_pos (by omega), show j - k = (j - (k + 1)) + 1 from by omega, List.getElem?_cons_succ]
      · rw [if_neg h2, if_neg (by omega)]
theorem nodup_get {T : List Nat} (h : T.Nodup) {i j x : Nat} (hi : T[i]? = some x) (hj : T[j]? = some x) : i = j := by
  have h1 := (List.getElem?_eq_some_iff.1 hi)
  have h2 := (List.getElem?_eq_some_iff.1 hj)
  exact (List.getElem_inj (h₀ := h1.1) (h₁ := h2.1) h).1 (h1.2.trans h2.2.symm)
theorem fresh_spec {q : Nat} {h : Hp} : ∀ {h' : Hp}, fresh q h h' → ∀ j o, get h' j = some o → base ≤ j ∨ get h (10000 * (j + 1) + q) = none
  | [], _, j, o, hg => by simp [get] at hg
  | (k, x) :: r, hf, j, o, hg => by
    rw [get_cons] at hg
    split at hg
    · rename_i e; subst e; exact hf.1
    · exact fresh_spec hf.2 j o hg
theorem get_merge {T : List Nat} {q : Nat} {h : Hp} : ∀ {h' : Hp} (id : Nat),
    (∃ j o, get h' j = some o ∧ back T q j = some id ∧ get (merge T q h h') id = some (o.ren (back T q))) ∨
    ((∀ j o, get h' j = some o → back T q j ≠ some id) ∧ get (merge T q h h') id = get h id) ∨ ¬ (∀ i j, back T q i = some id → back T q j = some id → (∃ o, get h' i = some o) → (∃ o, get h' j = some o) → i = j)
  | [], id => .inr (.inl ⟨fun j o hg => by simp [get] at hg, rfl⟩)
  | (k, x) :: r, id => by
    by_cases hinj : ∀ i j, back T q i = some id → back T q j = some id → (∃ o, get ((k, x) :: r) i = some o) → (∃ o, get ((k, x) :: r) j = some o) → i = j
    case neg => exact .inr (.inr hinj)
    by_cases hb : back T q k = some id
    · refine .inl ⟨k, x, by simp [get_cons], hb, ?_⟩
      simp only [merge, hb, get_setL, if_true]
    · have hstep : get (merge T q h ((k, x) :: r)) id = get (merge T q h r) id := by
        simp only [merge]
        cases hk : back T q k with
        | none => rfl
        | some id' => rw [get_setL, if_neg (fun e => hb (by rw [hk, e]))]
      have hin : ∀ i, (∃ o, get r i = some o) → back T q i = some id → ∃ o, get ((k, x) :: r) i = some o := fun i ⟨o, ho⟩ hbi => by
        rw [get_cons]
        by_cases e : k = i
        · subst e; exact (hb hbi).elim
        · rw [if_neg e]; exact ⟨o, ho⟩
      rcases get_merge (T := T) (q := q) (h := h) (h' := r) id with ⟨j, o, h1, h2, h3⟩ | ⟨h1, h2⟩ | h1
      · refine .inl ⟨j, o, ?_, h2, by rw [hstep]; exact h3⟩
        rw [get_cons, if_neg (fun e => by subst e; exact hb h2)]
        exact h1
      · refine .inr (.inl ⟨fun j o hg => ?_, by rw [hstep]; exact h2⟩)
        rw [get_cons] at hg
        split at hg
        · rename_i e; subst e; exact hb
        · exact h1 j o hg
      · exact (h1 fun i j hi hj hoi hoj => hinj i j hi hj (hin i hoi hi) (hin j hoj hj)).elim
theorem callD_sound (hr : Rel c st a w F M) {f : FuncId} {ds : List D} {q : Nat} {k : D → Hp → Prop} {vs : Array Value} (hd : DRl F w M (sg st.hp) ds vs.toList) (h : callD P st.hp f ds q k) :
    Runs P f vs w fun e w' => ∃ v d h' F' M', e = .returned v ∧ k d h' ∧ Rel c { st with hp := h' } a w' F' M' ∧ DR F' w' M' (sg h') d v := by
  unfold callD at h
  generalize closeT st.hp (idsL ds) = T at h
  obtain ⟨hT, hall, hcall⟩ := h
  have hpres : ∀ id, id ∈ T → ∃ o, get st.hp id = some o := fun id hid => by
    have := List.all_eq_true.1 hall id hid
    exact Option.isSome_iff_exists.1 this
  have hgetc : ∀ j, get (sub st.hp (idx T base) base T) j = if base ≤ j then ((T[j - base]?).bind (get st.hp)).map (AO.ren (idx T base)) else none := get_sub _ _ T base
  have hsgc : ∀ i id, T[i]? = some id → sg (sub st.hp (idx T base) base T) (base + i) = sg st.hp id := fun i id hi => by
    unfold sg
    rw [hgetc, if_pos (Nat.le_add_right _ _), Nat.add_sub_cancel_left, hi]
    cases ho : get st.hp id with
    | none => simp [ho]
    | some o => simp [ho, AO.ren_sg]
  have hρ : ∀ id j, idx T base id = some j → sg st.hp id ≠ none → (fun j => M (T.getD (j - base) 0)) j = M id ∧ sg (sub st.hp (idx T base) base T) j = sg st.hp id := fun id j hj _ => by
    obtain ⟨i, rfl, hi⟩ := idx_spec T base id j hj
    refine ⟨?_, hsgc i id hi⟩
    simp only [Nat.add_sub_cancel_left, List.getD_eq_getElem?_getD, hi, Option.getD_some]
  have howned : ∀ b, Owned (fun j => M (T.getD (j - base) 0)) (sub st.hp (idx T base) base T) b → ∃ (i id : Nat) (o : AO), T[i]? = some id ∧ get st.hp id = some o ∧ o.owns (M id) b := by
    rintro b ⟨j, o, hj, hown⟩
    rw [hgetc] at hj
    split at hj
    case isFalse => cases hj
    cases hi : T[j - base]? with
    | none => rw [hi] at hj; simp at hj
    | some id =>
      rw [hi] at hj
      simp only [Option.bind_some] at hj
      cases ho : get st.hp id with
      | none => rw [ho] at hj; simp at hj
      | some o2 =>
        rw [ho] at hj
        simp only [Option.map_some, Option.some.injEq] at hj
        subst hj
        have hM : M (T.getD (j - base) 0) = M id := by simp only [List.getD_eq_getElem?_getD, hi, Option.getD_some]
        simp only [hM, AO.ren_owns] at hown ⊢
        exact ⟨j - base, id, o2, hi, ho, hown⟩
  have hHR : HR F w (fun j => M (T.getD (j - base) 0)) (sub st.hp (idx T base) base T) := by
    have key : ∀ j o, get (sub st.hp (idx T base) base T) j = some o → ∃ id o2, T[j - base]? = some id ∧ base ≤ j ∧ get st.hp id = some o2 ∧ o = o2.ren (idx T base) ∧ M (T.getD (j - base) 0) = M id := by
      intro j o hj
      rw [hgetc] at hj
      split at hj
      case isFalse => cases hj
      rename_i hle
      cases hi : T[j - base]? with
      | none => rw [hi] at hj; simp at hj
      | some id =>
        rw [hi] at hj
        simp only [Option.bind_some] at hj
        cases ho : get st.hp id with
        | none => rw [ho] at hj; simp at hj
        | some o2 =>
          rw [ho] at hj
          simp only [Option.map_some, Option.some.injEq] at hj
          exact ⟨id, o2, rfl, hle, ho, hj.symm, by simp only [List.getD_eq_getElem?_getD, hi, Option.getD_some]⟩
    constructor
    · intro j o hj
      obtain ⟨id, o2, _, _, ho, rfl, hM⟩ := key j o hj
      simp only [hM]
      exact (hr.heap.obj id o2 ho).ren hρ
    · intro j o j' o' b hj hj' hown hown'
      obtain ⟨id, o2, hi, hle, ho, rfl, hM⟩ := key j o hj
      obtain ⟨id', o2', hi', hle', ho', rfl, hM'⟩ := key j' o' hj'
      simp only [hM, hM', AO.ren_owns] at hown hown'
      have := hr.heap.inj id o2 id' o2' b ho ho' hown hown'
      subst this
      have := nodup_get hT hi hi'
      omega
  refine (hcall vs w F _ hHR hr.keep.Fl (fun id hid => by
    by_cases e : base ≤ id
    · exact e
    · exact (hid (by unfold sg; rw [hgetc, if_neg e]; rfl)).elim) (hd.ren hρ)).mono ?_
  rintro e w' ⟨v, h', r, F', M', rfl, ⟨hfresh, hk⟩, hHR', hDR', hK⟩
  refine ⟨v, D.ren (back T q) r, merge T q st.hp h', F', ?_⟩
  have hback : ∀ j id, back T q j = some id → (∃ o, get h' j = some o) → (base ≤ j ∧ T[j - base]? = some id) ∨ (j < base ∧ get st.hp id = none) := by
    intro j id hb ⟨o, ho⟩
    unfold back at hb
    by_cases e1 : base ≤ j
    · rw [if_pos e1] at hb; exact .inl ⟨e1, hb⟩
    · rw [if_neg e1] at hb
      simp only [Option.some.injEq] at hb
      refine .inr ⟨by omega, ?_⟩
      have := (fresh_spec hfresh j o ho).resolve_left e1
      rwa [hb] at this
  have hinj : ∀ id i j, back T q i = some id → back T q j = some id → (∃ o, get h' i = some o) → (∃ o, get h' j = some o) → i = j := by
    intro id i j hi hj hoi hoj
    have h1 := hback i id hi hoi
    have h2 := hback j id hj hoj
    rcases h1 with ⟨h1, h3⟩ | ⟨h1, h3⟩ <;> rcases h2 with ⟨h2, h4⟩ | ⟨h2, h4⟩
    · have := nodup_get hT h3 h4; omega
    · obtain ⟨o, ho⟩ := hpres id (List.mem_of_getElem? h3); rw [h4] at ho; cases ho
    · obtain ⟨o, ho⟩ := hpres id (List.mem_of_getElem? h4); rw [h3] at ho; cases ho
    · unfold back at hi hj
      rw [if_neg (by omega)] at hi hj
      simp only [Option.some.injEq] at hi hj
      omega
  classical
  let M2 : Nat → Mb := fun id => if hx : ∃ j, (∃ o, get h' j = some o) ∧ back T q j = some id then M' hx.choose else M id
  have hM2 : ∀ j id, (∃ o, get h' j = some o) → back T q j = some id → M2 id = M' j := by
    intro j id ho hb
    have hx : ∃ j, (∃ o, get h' j = some o) ∧ back T q j = some id := ⟨j, ho, hb⟩
    simp only [M2, dif_pos hx]
    rw [hinj id _ _ hx.choose_spec.2 hb hx.choose_spec.1 ho]
  have hM2' : ∀ id, (∀ j o, get h' j = some o → back T q j ≠ some id) → M2 id = M id := by
    intro id hno
    simp only [M2]
    rw [dif_neg]
    rintro ⟨j, ⟨o, ho⟩, hb⟩
    exact hno j o ho hb
  have hget : ∀ id, (∃ j o, get h' j = some o ∧ back T q j = some id ∧ get (merge T q st.hp h') id = some (o.ren (back T q))) ∨
      ((∀ j o, get h' j = some o → back T q j ≠ some id) ∧ get (merge T q st.hp h') id = get st.hp id) := by
    intro id
    rcases get_merge (T := T) (q := q) (h := st.hp) (h' := h') id with h1 | h1 | h1
    · exact .inl h1
    · exact .inr h1
    · exact (h1 (hinj id)).elim
  have hσ : ∀ j id, back T q j = some id → sg h' j ≠ none → M2 id = M' j ∧ sg (merge T q st.hp h') id = sg h' j := by
    intro j id hb hs
    have ho : ∃ o, get h' j = some o := by
      cases hg : get h' j with
      | none => exact (hs (by simp [sg, hg])).elim
      | some o => exact ⟨o, rfl⟩
    refine ⟨hM2 j id ho hb, ?_⟩
    rcases hget id with ⟨j2, o2, h1, h2, h3⟩ | ⟨h1, _⟩
    · have := hinj id j j2 hb h2 ho ⟨o2, h1⟩
      subst this
      simp [sg, h1, h3, AO.ren_sg]
    · obtain ⟨o, ho⟩ := ho
      exact (h1 j o ho hb).elim
  have hnotT : ∀ id, (∃ o, get st.hp id = some o) → id ∉ T → (∀ j o, get h' j = some o → back T q j ≠ some id) := by
    intro id ⟨o, ho⟩ hid j o2 hj hb
    rcases hback j id hb ⟨o2, hj⟩ with ⟨_, h1⟩ | ⟨_, h1⟩
    · exact hid (List.mem_of_getElem? h1)
    · rw [h1] at ho; cases ho
  have hsame : ∀ id o, get st.hp id = some o → id ∉ T → get (merge T q st.hp h') id = some o ∧ M2 id = M id := by
    intro id o ho hid
    have hno := hnotT id ⟨o, ho⟩ hid
    rcases hget id with ⟨j, o2, h1, h2, h3⟩ | ⟨_, h2⟩
    · exact (hno j o2 h1 h2).elim
    · exact ⟨by rw [h2, ho], hM2' id hno⟩
  have hsgk : SgKeep M M2 (sg st.hp) (sg (merge T q st.hp h')) := by
    have hK2 := hK.sgk
    simp only at hK2
    refine ⟨fun id hid => ?_, fun id sz n hid => ?_, fun id sz n kk hid => ?_⟩
    · by_cases hmem : id ∈ T
      · obtain ⟨i, hi⟩ := List.mem_iff_getElem?.1 hmem
        obtain ⟨h1, h2⟩ := hK2.1 (base + i) (by rw [hsgc i id hi]; exact hid)
        have hb : back T q (base + i) = some id := by unfold back; rw [if_pos (Nat.le_add_right _ _), Nat.add_sub_cancel_left]; exact hi
        obtain ⟨h3, h4⟩ := hσ _ _ hb (by rw [h1]; simp)
        refine ⟨by rw [h4, h1], ?_⟩
        rw [h3, h2]
        simp only [Nat.add_sub_cancel_left, List.getD_eq_getElem?_getD, hi, Option.getD_some]
      · obtain ⟨o, ho, hso⟩ := sg_box hid
        obtain ⟨h1, h2⟩ := hsame id _ ho hmem
        exact ⟨by simp [sg, h1, hso], by rw [h2]⟩
    · by_cases hmem : id ∈ T
      · obtain ⟨i, hi⟩ := List.mem_iff_getElem?.1 hmem
        obtain ⟨n', h1, h1', h2⟩ := hK2.2.1 (base + i) sz n (by rw [hsgc i id hi]; exact hid)
        have hb : back T q (base + i) = some id := by unfold back; rw [if_pos (Nat.le_add_right _ _), Nat.add_sub_cancel_left]; exact hi
        obtain ⟨h3, h4⟩ := hσ _ _ hb (by rw [h1]; simp)
        refine ⟨n', by rw [h4, h1], h1', fun e => ?_⟩
        rw [h3, h2 e]
        simp only [Nat.add_sub_cancel_left, List.getD_eq_getElem?_getD, hi, Option.getD_some]
      · have : ∃ o, get st.hp id = some o := by
          cases hg : get st.hp id with
          | none => simp [sg, hg] at hid
          | some o => exact ⟨o, rfl⟩
        obtain ⟨o, ho⟩ := this
        obtain ⟨h1, h2⟩ := hsame id o ho hmem
        refine ⟨n, ?_, Nat.le_refl _, fun _ => h2⟩
        simp only [sg, h1, ho] at hid ⊢
        exact hid
    · by_cases hmem : id ∈ T
      · obtain ⟨i, hi⟩ := List.mem_iff_getElem?.1 hmem
        obtain ⟨n', k', h1, h1', h1'', h2, h2'⟩ := hK2.2.2 (base + i) sz n kk (by rw [hsgc i id hi]; exact hid)
        have hb : back T q (base + i) = some id := by unfold back; rw [if_pos (Nat.le_add_right _ _), Nat.add_sub_cancel_left]; exact hi
        obtain ⟨h3, h4⟩ := hσ _ _ hb (by rw [h1]; simp)
        refine ⟨n', k', by rw [h4, h1], h1', h1'', fun e => ?_, fun e => ?_⟩
        · rw [h3]
          have h5 := h2 e
          simp only [Nat.add_sub_cancel_left, List.getD_eq_getElem?_getD, hi, Option.getD_some] at h5
          exact h5
        · rw [h3]
          have h5 := h2' e
          simp only [Nat.add_sub_cancel_left, List.getD_eq_getElem?_getD, hi, Option.getD_some] at h5
          exact h5
      · have : ∃ o, get st.hp id = some o := by
          cases hg : get st.hp id with
          | none => simp [sg, hg] at hid
          | some o => exact ⟨o, rfl⟩
        obtain ⟨o, ho⟩ := this
        obtain ⟨h1, h2⟩ := hsame id o ho hmem
        refine ⟨n, kk, ?_, Nat.le_refl _, Nat.le_refl _, fun _ => by rw [h2]; exact ⟨rfl, rfl⟩, fun _ => by rw [h2]⟩
        simp only [sg, h1, ho] at hid ⊢
        exact hid
  have hnotOwned : ∀ id o b, get st.hp id = some o → o.owns (M id) b → id ∉ T → ¬ Owned (fun j => M (T.getD (j - base) 0)) (sub st.hp (idx T base) base T) b := by
    intro id o b ho hown hid hO
    obtain ⟨i, id2, o2, h1, h2, h3⟩ := howned _ hO
    have := hr.heap.inj id2 o2 id o b h2 ho h3 hown
    subst this
    exact hid (List.mem_of_getElem? h1)
  have hF : ∀ b, F b → w'.heap[b]? = w.heap[b]? := fun b hb => hK.old b (hr.keep.Fl b hb) (fun hO => by
    obtain ⟨i, id, o, h1, h2, h3⟩ := howned _ hO
    exact hr.heap.notF ⟨id, o, h2, h3⟩ hb)
  have hnF' : ∀ id o b, get st.hp id = some o → o.owns (M id) b → id ∉ T → ¬ F' b := fun id o b ho hown hid hf => by
    rcases hK.Fn _ hf with h1 | h1 | h1
    · exact hr.heap.notF ⟨id, o, ho, hown⟩ h1
    · exact hnotOwned id o b ho hown hid h1
    · have := hr.heap.lt ⟨id, o, ho, hown⟩
      simp only at h1
      omega
  refine ⟨M2, rfl, hk, ?_, hDR'.ren hσ⟩
  have hnotmem : ∀ id o, get (merge T q st.hp h') id = some o → (∀ j o, get h' j = some o → back T q j ≠ some id) → get st.hp id = some o → id ∉ T := by
    intro id o _ hno ho hmem
    obtain ⟨i, hi⟩ := List.mem_iff_getElem?.1 hmem
    have hb : back T q (base + i) = some id := by unfold back; rw [if_pos (Nat.le_add_right _ _), Nat.add_sub_cancel_left]; exact hi
    have hs : sg (sub st.hp (idx T base) base T) (base + i) ≠ none := by rw [hsgc i id hi]; simp [sg, ho]
    have : ∃ o, get h' (base + i) = some o := by
      cases hs2 : sg (sub st.hp (idx T base) base T) (base + i) with
      | none => exact (hs hs2).elim
      | some s2 =>
        cases s2 with
        | box =>
          have h1 := (hK.sgk.1 _ hs2).1
          obtain ⟨o, hcs, _⟩ := sg_box h1
          exact ⟨_, hcs⟩
        | arr sz n =>
          obtain ⟨n', h1, _⟩ := hK.sgk.2.1 _ sz n hs2
          rcases sg_arr h1 with ⟨t, es, h2, _⟩ | ⟨es, h2, _⟩ | ⟨_, h2, _⟩ | ⟨_, _, _, _, _, h2, _⟩
          · exact ⟨_, h2⟩
          · exact ⟨_, h2⟩
          · exact ⟨_, h2⟩
          · exact ⟨_, h2⟩
        | nst sz n kk =>
          obtain ⟨n', k', h1, _⟩ := hK.sgk.2.2 _ sz n kk hs2
          unfold sg at h1
          cases hg2 : get h' (base + i) with
          | none => rw [hg2] at h1; simp at h1
          | some o3 => exact ⟨o3, rfl⟩
    obtain ⟨o2, ho2⟩ := this
    exact hno _ o2 ho2 hb
  constructor
  · intro t d ht
    exact (hr.env t d ht).keep hF hK.F0 hsgk
  · exact hr.size
  · exact hr.defers
  · constructor
    · intro id o ho
      rcases hget id with ⟨j, o2, h1, h2, h3⟩ | ⟨h1, h2⟩
      · rw [h3] at ho
        cases ho
        rw [hM2 j id ⟨o2, h1⟩ h2]
        exact (hHR'.obj j o2 h1).ren hσ
      · have ho' : get st.hp id = some o := by rw [← h2]; exact ho
        have hid := hnotmem id o ho h1 ho'
        rw [hM2' id h1]
        exact (hr.heap.obj id o ho').keep hF hK.F0 hsgk (fun b hown => ⟨hK.old b (hr.heap.lt ⟨id, o, ho', hown⟩) (hnotOwned id o b ho' hown hid), hnF' id o b ho' hown hid⟩)
    · intro id o id' o' b ho ho' hown hown'
      have cross : ∀ j oj id2 o2, get h' j = some oj → oj.owns (M' j) b → get st.hp id2 = some o2 → o2.owns (M id2) b → id2 ∉ T → False := by
        intro j oj id2 o2 hj hownj h2 hown2 hid2
        rcases hK.own _ ⟨j, oj, hj, hownj⟩ with h3 | h3
        · exact hnotOwned id2 o2 b h2 hown2 hid2 h3
        · have := hr.heap.lt ⟨id2, o2, h2, hown2⟩
          simp only at h3
          omega
      rcases hget id with ⟨j, o2, h1, h2, h3⟩ | ⟨h1, h2⟩ <;> rcases hget id' with ⟨j', o2', h1', h2', h3'⟩ | ⟨h1', h2'⟩
      · rw [h3] at ho; rw [h3'] at ho'
        cases ho; cases ho'
        rw [hM2 j id ⟨o2, h1⟩ h2] at hown
        rw [hM2 j' id' ⟨o2', h1'⟩ h2'] at hown'
        have := hHR'.inj j o2 j' o2' b h1 h1' ((AO.ren_owns _ _ _ _).1 hown) ((AO.ren_owns _ _ _ _).1 hown')
        subst this
        rw [h2] at h2'
        cases h2'
        rfl
      · rw [h3] at ho
        cases ho
        have ho2 : get st.hp id' = some o' := by rw [← h2']; exact ho'
        rw [hM2 j id ⟨o2, h1⟩ h2] at hown
        rw [hM2' id' h1'] at hown'
        exact (cross j o2 id' o' h1 ((AO.ren_owns _ _ _ _).1 hown) ho2 hown' (hnotmem id' o' ho' h1' ho2)).elim
      · rw [h3'] at ho'
        cases ho'
        have ho2 : get st.hp id = some o := by rw [← h2]; exact ho
        rw [hM2 j' id' ⟨o2', h1'⟩ h2'] at hown'
        rw [hM2' id h1] at hown
        exact (cross j' o2' id o h1' ((AO.ren_owns _ _ _ _).1 hown') ho2 hown (hnotmem id o ho h1 ho2)).elim
      · have ho2 : get st.hp id = some o := by rw [← h2]; exact ho
        have ho2' : get st.hp id' = some o' := by rw [← h2']; exact ho'
        rw [hM2' id h1] at hown
        rw [hM2' id' h1'] at hown'
        exact hr.heap.inj id o id' o' b ho2 ho2' hown hown'
  · have hk0 := hr.keep
    have hlift : ∀ b, Owned (fun j => M (T.getD (j - base) 0)) (sub st.hp (idx T base) base T) b → c.O0 b ∨ c.w0.heap.size ≤ b := fun b hO => by
      obtain ⟨i, id, o, h1, h2, h3⟩ := howned _ hO
      exact hk0.own _ ⟨id, o, h2, h3⟩
    refine ⟨hK.os.trans hk0.os, hK.tape.trans hk0.tape, hK.output.trans hk0.output, Nat.le_trans hk0.size hK.size, fun b hb hO => ?_, fun b hb => hK.F0 b (hk0.F0 b hb), fun b hb => ?_, hK.Fl, ?_, hk0.sgk.trans hsgk, hk0.s0b⟩
    · rw [hK.old b (Nat.lt_of_lt_of_le hb hk0.size) (fun hO2 => ?_)]
      · exact hk0.old b hb hO
      · rcases hlift b hO2 with h1 | h1
        · exact hO h1
        · omega
    · rcases hK.Fn b hb with h1 | h1 | h1
      · exact hk0.Fn b h1
      · exact .inr (hlift b h1)
      · exact .inr (.inr (Nat.le_trans hk0.size h1))
    · rintro b ⟨id, o, ho, hown⟩
      rcases hget id with ⟨j, o2, h1, h2, h3⟩ | ⟨h1, h2⟩
      · rw [h3] at ho
        cases ho
        rw [hM2 j id ⟨o2, h1⟩ h2] at hown
        rcases hK.own _ ⟨j, o2, h1, (AO.ren_owns _ _ _ _).1 hown⟩ with h4 | h4
        · exact hlift _ h4
        · exact .inr (Nat.le_trans hk0.size h4)
      · have ho2 : get st.hp id = some o := by rw [← h2]; exact ho
        rw [hM2' id h1] at hown
        exact hk0.own _ ⟨id, o, ho2, hown⟩
end
end Go.Am
namespace Go.Am
open Go
section
variable {P : Program} {c : Ctx} {st : St} {a : Act} {w : World} {F : Nat → Prop} {M : Nat → Mb}
theorem Rel.put (hr : Rel c st a w F M) {d : D} {v : Value} (hd : DR F w M (sg st.hp) d v) (t : Option Tmp) : Rel c (st.put t d) (a.put t v) w F M := by
  cases t with
  | none => exact hr
  | some t =>
    simp only [St.put, Act.put]
    by_cases ht : t < st.n
    · rw [if_pos ht]
      have hlt : t < a.tmps.size := by rw [hr.size]; exact ht
      refine ⟨fun q e hq => ?_, by simp [hr.size], hr.defers, hr.heap, hr.keep⟩
      simp only [get_cons] at hq
      have hsz := hr.size
      by_cases e1 : t = q
      · subst e1
        simp only [if_true, Option.some.injEq] at hq
        subst hq
        have : (a.tmps.setIfInBounds t v).getD t undef = v := by rw [Array.getD_eq_getD_getElem?, Array.getElem?_setIfInBounds, if_pos rfl, if_pos hlt]; rfl
        rw [this]; exact hd
      · rw [if_neg e1] at hq
        have : (a.tmps.setIfInBounds t v).getD q undef = a.tmps.getD q undef := by rw [Array.getD_eq_getD_getElem?, Array.getD_eq_getD_getElem?, Array.getElem?_setIfInBounds, if_neg e1]
        rw [this]; exact hr.env q e hq
    · rw [if_neg ht]
      have : a.tmps.setIfInBounds t v = a.tmps := by
        have hge : ¬ t < a.tmps.size := by rw [hr.size]; exact ht
        unfold Array.setIfInBounds; rw [dif_neg hge]
      rw [this]
      exact hr
theorem bor_sound (hr : Rel c st a w F M) {d : D} {v : Value} (hd : DR F w M (sg st.hp) d v) {k : D → Hp → Prop} (h : bor st.hp d k) :
    ∃ d' h' F', k d' h' ∧ Rel c { st with hp := h' } a w F' M ∧ (∀ b, F b → F' b) ∧ sg h' = sg st.hp ∧ DR F' w M (sg h') d' v := by
  have plain : k d st.hp → ∃ d' h' F', k d' h' ∧ Rel c { st with hp := h' } a w F' M ∧ (∀ b, F b → F' b) ∧ sg h' = sg st.hp ∧ DR F' w M (sg h') d' v :=
    fun hk => ⟨d, st.hp, F, hk, hr, fun _ h => h, rfl, hd⟩
  unfold bor at h
  cases d with
  | ref id off len N =>
    have h2 : purD st.hp (.ref id off len N) (fun x h' => k (.p x) h') := by
      unfold purD
      simp only at h ⊢
      exact h
    obtain ⟨x, h', F', hk, h3, h4, h5, h6⟩ := purD_sound hr hd h2
    exact ⟨_, h', F', hk, h3, h4, h5, .p h6⟩
  | nref id n =>
    have h2 : purD st.hp (.nref id n) (fun x h' => k (.p x) h') := by
      unfold purD
      simp only at h ⊢
      exact h
    obtain ⟨x, h', F', hk, h3, h4, h5, h6⟩ := purD_sound hr hd h2
    exact ⟨_, h', F', hk, h3, h4, h5, .p h6⟩
  | cl es => cases hd with | cl _ ad hx _ => exact ⟨_, st.hp, F, h, hr, fun _ h => h, rfl, .p hx⟩
  | _ => exact plain h
mutual
theorem borD_sound : ∀ (d : D) {st : St} {F : Nat → Prop} {v : Value}, Rel c st a w F M → DR F w M (sg st.hp) d v → ∀ {k : D → Hp → Prop}, borD st.hp d k →
    ∃ d' h' F', k d' h' ∧ Rel c { st with hp := h' } a w F' M ∧ (∀ b, F b → F' b) ∧ sg h' = sg st.hp ∧ DR F' w M (sg h') d' v
  | .agg cs, st, F, v, hr, hd, k, h => by
    cases hd with
    | agg _ vs hl hc =>
      simp only [borD] at h
      obtain ⟨ds, h', F', hk, h1, h2, h3, h4⟩ := borDs_sound cs vs.toList hr ⟨by simpa using hl, fun i e he => by have := hc i e he; simpa [List.getD, Array.getD_eq_getD_getElem?] using this⟩ h
      exact ⟨_, h', F', hk, h1, h2, h3, .agg _ vs (by have := h4.1; simpa using this) (fun i e he => by have := h4.2 i e he; simpa [List.getD, Array.getD_eq_getD_getElem?] using this)⟩
  | .tup cs, st, F, v, hr, hd, k, h => by
    cases hd with
    | tup _ vs hl hc =>
      simp only [borD] at h
      obtain ⟨ds, h', F', hk, h1, h2, h3, h4⟩ := borDs_sound cs vs.toList hr ⟨by simpa using hl, fun i e he => by have := hc i e he; simpa [List.getD, Array.getD_eq_getD_getElem?] using this⟩ h
      exact ⟨_, h', F', hk, h1, h2, h3, .tup _ vs (by have := h4.1; simpa using this) (fun i e he => by have := h4.2 i e he; simpa [List.getD, Array.getD_eq_getD_getElem?] using this)⟩
  | .p x, st, F, v, hr, hd, k, h => bor_sound hr hd (by simpa only [borD] using h)
  | .cl x, st, F, v, hr, hd, k, h => bor_sound hr hd (by simpa only [borD] using h)
  | .cz x, st, F, v, hr, hd, k, h => bor_sound hr hd (by simpa only [borD] using h)
  | .ref _ _ _ _, st, F, v, hr, hd, k, h => bor_sound hr hd (by simpa only [borD] using h)
  | .ptr _ _, st, F, v, hr, hd, k, h => bor_sound hr hd (by simpa only [borD] using h)
  | .pe _, st, F, v, hr, hd, k, h => bor_sound hr hd (by simpa only [borD] using h)
  | .ea _ _ _ _, st, F, v, hr, hd, k, h => bor_sound hr hd (by simpa only [borD] using h)
  | .fn _ _, st, F, v, hr, hd, k, h => bor_sound hr hd (by simpa only [borD] using h)
  | .np, st, F, v, hr, hd, k, h => bor_sound hr hd (by simpa only [borD] using h)
  | .mv _, st, F, v, hr, hd, k, h => bor_sound hr hd (by simpa only [borD] using h)
  | .nref _ _, st, F, v, hr, hd, k, h => bor_sound hr hd (by simpa only [borD] using h)
  | .nea _ _ _, st, F, v, hr, hd, k, h => bor_sound hr hd (by simpa only [borD] using h)
  | .nr _ _ _ _, st, F, v, hr, hd, k, h => bor_sound hr hd (by simpa only [borD] using h)
  | .unk, st, F, v, hr, hd, k, h => bor_sound hr hd (by simpa only [borD] using h)
  | .bad, st, F, v, hr, hd, k, h => bor_sound hr hd (by simpa only [borD] using h)
theorem borDs_sound : ∀ (ds : List D) {st : St} {F : Nat → Prop} (vs : List Value), Rel c st a w F M → DRl F w M (sg st.hp) ds vs → ∀ {k : List D → Hp → Prop}, borDs st.hp ds k →
    ∃ ds' h' F', k ds' h' ∧ Rel c { st with hp := h' } a w F' M ∧ (∀ b, F b → F' b) ∧ sg h' = sg st.hp ∧ DRl F' w M (sg h') ds' vs
  | [], st, F, vs, hr, hd, k, h => by
    simp only [borDs] at h
    exact ⟨[], st.hp, F, h, hr, fun _ h => h, rfl, hd⟩
  | d :: ds, st, F, vs, hr, hd, k, h => by
    cases vs with
    | nil => have := hd.1; simp at this
    | cons v vs =>
      simp only [borDs] at h
      have hd0 : DR F w M (sg st.hp) d v := by simpa [List.getD] using hd.2 0 d rfl
      obtain ⟨x, h1, F1, hk, hr1, hF1, hs1, hx⟩ := borD_sound d hr hd0 h
      have hd1 : DRl F1 w M (sg h1) ds vs := by
        refine ⟨by have := hd.1; simpa using this, fun i e he => ?_⟩
        have := hd.2 (i + 1) e (by simpa using he)
        rw [hs1]
        have h3 : DR F w M (sg st.hp) e (vs.getD i undef) := by simpa [List.getD] using this
        exact h3.keep (fun _ _ => rfl) hF1 (SgKeep.refl _ _)
      obtain ⟨xs, h2, F2, hk2, hr2, hF2, hs2, hx2⟩ := borDs_sound ds (st := { st with hp := h1 }) vs hr1 hd1 hk
      refine ⟨x :: xs, h2, F2, hk2, hr2, fun b hb => hF2 b (hF1 b hb), hs2.trans hs1, by have := hx2.1; simpa using this, fun i y hy => ?_⟩
      cases i with
      | zero =>
        simp only [List.getElem?_cons_zero, Option.some.injEq] at hy
        subst hy
        have h4 := hx.keep (w' := w) (fun _ _ => rfl) hF2 (SgKeep.refl M (sg h1))
        rw [hs2]
        simpa [List.getD] using h4
      | succ i => simp only [List.getElem?_cons_succ] at hy; simpa [List.getD] using hx2.2 i y hy
end
theorem evs_sound (hr : Rel c st a w F M) (xs : List Operand) : DRl F w M (sg st.hp) (xs.map (ev st)) (xs.map a.eval) := by
  refine ⟨by simp, fun i d hd => ?_⟩
  rw [List.getElem?_map] at hd
  cases hx : xs[i]? with
  | none => rw [hx] at hd; cases hd
  | some x =>
    rw [hx] at hd
    cases hd
    rw [List.getD_eq_getElem?_getD, List.getElem?_map, hx]
    exact ev_sound hr x
theorem lenD_sound {hp : Hp} {t : TypeId} {x : D} {k : D → Prop} (h : lenD P hp t x k) {vx : Value} (hx : DR F w M (sg hp) x vx) (ts : Array TypeId) (ty : TypeId) (ht : ts[0]? = some t) :
    ∃ d v, k d ∧ DR F w M (sg hp) d v ∧ (Builtin.len_ ts ty #[vx]).run P w = .ok v w := by
  unfold lenD at h
  split at h
  case h_2 => exact h.elim
  rename_i ti h1
  obtain ⟨i1, u1, z1, hi1, hu1, _, rfl⟩ := tiOf_some h1
  split at h
  · rename_i l hk
    obtain rfl := TK.of_string hk
    cases hx with | p hx => cases hx; exact ⟨_, _, h, .p (.int _ _), by simp [Builtin.len_, ht, run_underlying hu1, goInt, size_str]⟩
  · rename_i e es hk
    obtain rfl := TK.of_slice hk
    cases hx with | p hx =>
      have : ∃ ad cap, vx = .slice ad es.length cap := by cases hx <;> exact ⟨_, _, rfl⟩
      obtain ⟨ad, cap, rfl⟩ := this
      exact ⟨_, _, h, .p (.int _ _), by simp [Builtin.len_, ht, run_underlying hu1, goInt]⟩
  · rename_i e es hk
    obtain rfl := TK.of_slice hk
    cases hx with | cl _ ad hx _ => exact ⟨_, _, h, .p (.int _ _), by simp [Builtin.len_, ht, run_underlying hu1, goInt]⟩
  · rename_i e id off len N hk
    obtain rfl := TK.of_slice hk
    cases hx with
    | ref _ _ _ _ sz n _ hs hN hv h2 =>
      rw [hs] at h
      obtain ⟨ad, cap, rfl, _⟩ := h2 h.1
      exact ⟨_, _, h.2, .p (.int _ _), by simp [Builtin.len_, ht, run_underlying hu1, goInt]⟩
  · rename_i e id n hk
    obtain rfl := TK.of_slice hk
    cases hx with
    | nref _ _ sz m kk _ hs hN hv h2 =>
      obtain ⟨ad, cap, rfl, _⟩ := hv
      exact ⟨_, _, h, .p (.int _ _), by simp [Builtin.len_, ht, run_underlying hu1, goInt]⟩
  · rename_i e id i len q hk
    obtain rfl := TK.of_slice hk
    cases hx with
    | nr _ _ _ _ sz m kk _ hs hN hv h2 =>
      obtain ⟨ad, cap, rfl⟩ := hv
      exact ⟨_, _, h, .p (.int _ _), by simp [Builtin.len_, ht, run_underlying hu1, goInt]⟩
  · rename_i n e _ hk
    obtain rfl := TK.of_array hk
    exact ⟨_, _, h, .p (.int _ _), by simp [Builtin.len_, ht, run_underlying hu1, goInt]⟩
  · exact h.elim
theorem list_one {α : Type} {x : α} {f : Operand → α} {xs : Array Operand} (h : xs.toList.map f = [x]) : ∃ q, xs = #[q] ∧ f q = x := by
  obtain ⟨l⟩ := xs
  simp only at h
  cases l with
  | nil => simp at h
  | cons q r =>
    cases r with
    | nil => simp only [List.map_cons, List.map_nil, List.cons.injEq, and_true] at h; exact ⟨q, rfl, h⟩
    | cons _ _ => simp at h
theorem run_min3 {P : Program} {w : World} (ts : Array TypeId) (t : TypeId) (k k' k'' : IntKind) (x y z : Int) : (Builtin.min_ ts t #[.int k x, .int k' y, .int k'' z]).run P w = .ok (.int k (if z < (if y < x then y else x) then z else (if y < x then y else x))) w := by
  simp [Builtin.min_, Builtin.min2]
theorem list_three {α : Type} {x y z : α} {f : Operand → α} {xs : Array Operand} (h : xs.toList.map f = [x, y, z]) : ∃ q r s, xs = #[q, r, s] ∧ f q = x ∧ f r = y ∧ f s = z := by
  obtain ⟨l⟩ := xs
  simp only at h
  rcases l with _ | ⟨q, _ | ⟨r, _ | ⟨s, _ | ⟨u, l⟩⟩⟩⟩
  · simp at h
  · simp at h
  · simp at h
  · simp only [List.map_cons, List.map_nil, List.cons.injEq, and_true] at h; exact ⟨q, r, s, rfl, h.1, h.2.1, h.2.2⟩
  · simp at h
theorem list_two {α : Type} {x y : α} {f : Operand → α} {xs : Array Operand} (h : xs.toList.map f = [x, y]) : ∃ q r, xs = #[q, r] ∧ f q = x ∧ f r = y := by
  obtain ⟨l⟩ := xs
  simp only at h
  cases l with
  | nil => simp at h
  | cons q r =>
    cases r with
    | nil => simp at h
    | cons q2 r2 =>
      cases r2 with
      | nil => simp only [List.map_cons, List.map_nil, List.cons.injEq, and_true] at h; exact ⟨q, q2, rfl, h.1, h.2⟩
      | cons _ _ => simp at h
theorem builtinD_sound (hr : Rel c st a w F M) {o : Oper} {cl : Call} {b : Builtin} (ho : o.op = .call cl) (hb : cl.callee = .builtin b) {q : Nat} {k : D → Hp → Prop}
    (h : builtinD P st q b cl.argTypes (cl.args.toList.map (ev st)) k) :
    ∃ d h' v w' M', k d h' ∧ Rel c { st with hp := h' } a w' F M' ∧ DR F w' M' (sg h') d v ∧ (execOp a.eval o).run P w = .ok (.value v) w' := by
  unfold builtinD at h
  generalize hl : cl.args.toList.map (ev st) = l at h
  split at h
  ·
    rename_i x
    obtain ⟨xq, hxs, rfl⟩ := list_one hl
    split at h
    case h_2 => exact h.elim
    rename_i t ht
    obtain ⟨d, v, h1, h2, h3⟩ := lenD_sound (P := P) h (ev_sound hr xq) cl.argTypes o.type ht
    exact ⟨d, _, v, w, M, h1, hr, h2, by simp [execOp, ho, hb, resolve, invoke, builtin, hxs, h3]⟩
  ·
    rename_i s x
    obtain ⟨sq, xq, hxs, rfl, rfl⟩ := list_two hl
    split at h
    case h_2 => exact h.elim
    rename_i t t2 ht ht2
    obtain ⟨d, h', v, w', M', h1, h2, h3, h4⟩ := appD_sound (P := P) (ty := o.type) hr (ev_sound hr sq) (ev_sound hr xq) h
    have e : Builtin.append_ cl.argTypes o.type #[a.eval sq, a.eval xq] = Builtin.append_ #[t, t2] o.type #[a.eval sq, a.eval xq] := by
      simp [Builtin.append_, ht, ht2]
    exact ⟨d, h', v, w', M', h1, h2, h3, by simp [execOp, ho, hb, resolve, invoke, builtin, hxs, e, h4]⟩
  ·
    rename_i s x
    obtain ⟨sq, xq, hxs, rfl, rfl⟩ := list_two hl
    split at h
    case h_2 => exact h.elim
    rename_i t t2 ht ht2
    obtain ⟨d, h', v, w', M', h1, h2, h3, h4⟩ := copyD_sound (P := P) (t2 := t2) (ty := o.type) hr (ev_sound hr sq) (ev_sound hr xq) h
    have e : Builtin.copy_ cl.argTypes o.type #[a.eval sq, a.eval xq] = Builtin.copy_ #[t, t2] o.type #[a.eval sq, a.eval xq] := by
      simp [Builtin.copy_, ht]
    exact ⟨d, h', v, w', M', h1, h2, h3, by simp [execOp, ho, hb, resolve, invoke, builtin, hxs, e, h4]⟩
  ·
    rename_i k1 x k2 y
    obtain ⟨xq, yq, hxs, hx, hy⟩ := list_two hl
    obtain ⟨rfl, hk⟩ := h
    have h1 := ev_sound hr xq
    have h2 := ev_sound hr yq
    rw [hx] at h1
    rw [hy] at h2
    generalize hvx : a.eval xq = vx at h1
    generalize hvy : a.eval yq = vy at h2
    cases h1 with | p h1 => cases h1; cases h2 with | p h2 =>
      cases h2
      exact ⟨_, _, _, w, M, hk, hr, .p (.int _ _), by simp [execOp, ho, hb, resolve, invoke, builtin, hxs, hvx, hvy, run_min_int2]⟩
  ·
    rename_i k1 x k2 y
    obtain ⟨xq, yq, hxs, hx, hy⟩ := list_two hl
    obtain ⟨rfl, hk⟩ := h
    have h1 := ev_sound hr xq
    have h2 := ev_sound hr yq
    rw [hx] at h1
    rw [hy] at h2
    generalize hvx : a.eval xq = vx at h1
    generalize hvy : a.eval yq = vy at h2
    cases h1 with | p h1 => cases h1; cases h2 with | p h2 =>
      cases h2
      exact ⟨_, _, _, w, M, hk, hr, .p (.int _ _), by simp [execOp, ho, hb, resolve, invoke, builtin, hxs, hvx, hvy, run_max_int2]⟩
  · rename_i k1 x k2 y k3 z
    obtain ⟨xq, yq, zq, hxs, hx, hy, hz⟩ := list_three hl
    obtain ⟨⟨rfl, rfl⟩, hk⟩ := h
    have h1 := ev_sound hr xq
    have h2 := ev_sound hr yq
    have h3 := ev_sound hr zq
    rw [hx] at h1
    rw [hy] at h2
    rw [hz] at h3
    generalize hvx : a.eval xq = vx at h1
    generalize hvy : a.eval yq = vy at h2
    generalize hvz : a.eval zq = vz at h3
    cases h1 with | p h1 => cases h1; cases h2 with | p h2 => cases h2; cases h3 with | p h3 =>
      cases h3
      exact ⟨_, _, _, w, M, hk, hr, .p (.int _ _), by simp [execOp, ho, hb, resolve, invoke, builtin, hxs, hvx, hvy, hvz, run_min3]⟩
  · exact h.elim
theorem own_sound (hr : Rel c st a w F M) {o : Oper} {f : Operand} {args : List Operand} {g : FuncId} {cap : List D} {K : St → Prop} (ho : isCall o.op = some (f, args)) (hg : ev st f = .fn g cap)
    (hk : callD P st.hp g (args.map (ev st) ++ cap) (o.dst.getD 0) fun d h' => K (({ st with hp := h' } : St).put o.dst d)) (Q : Exit → Act → World → Prop) : o.wp P a w (Good c K) Q := by
  unfold isCall at ho
  split at ho
  case h_2 => cases ho
  rename_i cl hop
  split at ho
  case h_2 => cases ho
  rename_i f' hf
  simp only [Option.some.injEq, Prod.mk.injEq] at ho
  obtain ⟨rfl, rfl⟩ := ho
  have hfv := ev_sound hr f'
  rw [hg] at hfv
  generalize hvf : a.eval f' = vf at hfv
  cases hfv with
  | fn _ _ caps hl hc =>
    have hargs := (evs_sound hr cl.args.toList).append (cs' := cap) (vs' := caps.toList) ⟨by simpa using hl, fun i e he => by have := hc i e he; simpa [List.getD, Array.getD_eq_getD_getElem?] using this⟩
    rcases callD_sound (vs := cl.args.map a.eval ++ caps) hr (by simpa using hargs) hk with ⟨hent, hcalls⟩ | ⟨v, w', hval, v', d, h2, F2, M2, hv', hk2, hr2, hd2⟩
    · have hrun : (execOp a.eval o).run P w = .ok (.enter g (cl.args.map a.eval ++ caps)) w := by
        simp only [execOp, hop, hf, resolve, hvf, Deferred.ofValue, Sem.run_bind, Sem.run_pure, Result.andThen_ok, invoke, Array.empty_append]
        exact hent
      unfold Oper.wp
      rw [hrun]
      refine hcalls.mono ?_
      rintro e w' ⟨v, d, h2, F2, M2, rfl, hk2, hr2, hd2⟩
      exact ⟨_, F2, M2, hk2, hr2.put hd2 o.dst⟩
    · have hrun : (execOp a.eval o).run P w = .ok (.value v) w' := by
        simp only [execOp, hop, hf, resolve, hvf, Deferred.ofValue, Sem.run_bind, Sem.run_pure, Result.andThen_ok, invoke, Array.empty_append]
        exact hval
      cases hv'
      unfold Oper.wp
      rw [hrun]
      exact ⟨_, F2, M2, hk2, hr2.put hd2 o.dst⟩
theorem wDo_sound (hr : Rel c st a w F M) {s : Bool} {o : Oper} {K : St → Prop} (h : wDo P s o K st) (Q : Exit → Act → World → Prop) : o.wp P a w (Good c K) Q := by
  have val : ∀ {d v}, K (st.put o.dst d) → DR F w M (sg st.hp) d v → (execOp a.eval o).run P w = .ok (.value v) w → o.wp P a w (Good c K) Q := by
    intro d v hk hd hrun
    unfold Oper.wp
    rw [hrun]
    exact ⟨_, F, M, hk, hr.put hd o.dst⟩
  have mop : MOut P c st a w F o (fun d h => K (({ st with hp := h } : St).put o.dst d)) → o.wp P a w (Good c K) Q := by
    rintro ⟨d, h', v, w', F', M', hk, hr', hF, hd, hrun⟩
    unfold Oper.wp
    rcases hrun with hrun | ⟨rfl, hrun⟩
    · rw [hrun]; exact ⟨_, F', M', hk, hr'.put hd o.dst⟩
    · rw [hrun]; exact ⟨_, F', M', hk, hr'.put hd o.dst⟩
  have other : (doR P st o).all (fun x => K (({ st with hp := x.2 } : St).put o.dst x.1)) → o.wp P a w (Good c K) Q := by
    intro h
    unfold doR at h
    split at h
    · rename_i cl ho
      split at h
      · rename_i b hb
        obtain ⟨d, h', v, w', M', hk, hr', hd, hrun⟩ := builtinD_sound hr ho hb (builtinR_all (k := fun d h => K (({ st with hp := h } : St).put o.dst d)) h)
        unfold Oper.wp
        rw [hrun]
        exact ⟨_, F, M', hk, hr'.put hd o.dst⟩
      · exact h.elim
    · exact mop (mOp_sound hr (mOpR_all h))
    · exact mop (mOp_sound hr (mOpR_all h))
    · exact mop (mOp_sound hr (mOpR_all h))
    · exact mop (mOp_sound hr (mOpR_all h))
    · exact mop (mOp_sound hr (mOpR_all h))
    · exact mop (mOp_sound hr (mOpR_all h))
    · exact mop (mOp_sound hr (mOpR_all h))
    · have h1 := vOpR_all (Rs.all_mono (fun d hd => hd.2) (Rs.all_bind h))
      obtain ⟨d, v, hk, hd, hrun⟩ := vOp_sound hr h1
      exact val hk hd hrun
  unfold wDo at h
  split at h
  · rename_i f args ho
    unfold isCall at ho
    split at ho
    case h_2 => cases ho
    rename_i cl hop
    split at ho
    case h_2 => cases ho
    rename_i f' hf
    simp only [Option.some.injEq, Prod.mk.injEq] at ho
    obtain ⟨rfl, rfl⟩ := ho
    rcases Rs.allOr_or h with h | h
    case inr => exact h.2 c a w F M Q hr
    have hfv := ev_sound hr f'
    unfold callR at h
    split at h
    case h_2 => exact h.elim
    rename_i g cap he
    rw [he] at hfv
    generalize hvf : a.eval f' = vf at hfv
    cases hfv with
    | fn _ _ caps hl hc =>
      have hargs := (evs_sound hr cl.args.toList).append (cs' := cap) (vs' := caps.toList) ⟨by simpa using hl, fun i e he => by have := hc i e he; simpa [List.getD, Array.getD_eq_getD_getElem?] using this⟩
      have hb := borDsR_all (k := fun ds h => callDO (s = true ∧ SemOp P o K st) P h g ds (o.dst.getD 0) fun d h' => K (({ st with hp := h' } : St).put o.dst d)) (Rs.all_mono (fun x hx => hx.2) (Rs.all_bind h))
      obtain ⟨ds, h', F', hk, hr', hF, hs, hds⟩ := borDs_sound _ _ hr hargs hb
      rcases callDO_of hk with hk | hk
      case inr => exact hk.2 c a w F M Q hr
      rcases callD_sound (vs := cl.args.map a.eval ++ caps) hr' (by simpa using hds) hk with ⟨hent, hcalls⟩ | ⟨v, w', hval, v', d, h2, F2, M2, hv', hk2, hr2, hd2⟩
      · have hrun : (execOp a.eval o).run P w = .ok (.enter g (cl.args.map a.eval ++ caps)) w := by
          simp only [execOp, hop, hf, resolve, hvf, Deferred.ofValue, Sem.run_bind, Sem.run_pure, Result.andThen_ok, invoke, Array.empty_append]
          exact hent
        unfold Oper.wp
        rw [hrun]
        refine hcalls.mono ?_
        rintro e w' ⟨v, d, h2, F2, M2, rfl, hk2, hr2, hd2⟩
        exact ⟨_, F2, M2, hk2, hr2.put hd2 o.dst⟩
      · have hrun : (execOp a.eval o).run P w = .ok (.value v) w' := by
          simp only [execOp, hop, hf, resolve, hvf, Deferred.ofValue, Sem.run_bind, Sem.run_pure, Result.andThen_ok, invoke, Array.empty_append]
          exact hval
        cases hv'
        unfold Oper.wp
        rw [hrun]
        exact ⟨_, F2, M2, hk2, hr2.put hd2 o.dst⟩
  · rcases Rs.allOr_or h with h | h
    · exact other h
    · exact h.2 c a w F M Q hr
theorem guard_sound (hr : Rel c st a w F M) {ops : Array Oper} {o : Oper} {yes no : Prop} (h : guardD st ops.toList o.guard yes no) :
    (Region.wanted o (yielded ops a.tmps) = true ∧ yes) ∨ (Region.wanted o (yielded ops a.tmps) = false ∧ no) := by
  unfold guardD at h
  split at h
  · rename_i hg
    exact .inl ⟨by simp [Region.wanted, hg], h⟩
  · rename_i j want hg
    have hyl : ∀ {d : D}, ((ops.toList[j]?).bind (·.dst)).bind (get st.env) = some d → ∃ t, (ops[j]?).bind (·.dst) = some t ∧ DR F w M (sg st.hp) d (a.tmps.getD t undef) := by
      intro d hd
      rw [Array.getElem?_toList] at hd
      cases ht : (ops[j]?).bind (·.dst) with
      | none => rw [ht] at hd; cases hd
      | some t => rw [ht] at hd; exact ⟨t, rfl, hr.env t d hd⟩
    split at h
    · rename_i b hb
      obtain ⟨t, h1, h2⟩ := hyl hb
      have hv : a.tmps[t]? = some (.bool b) := by
        generalize hq : a.tmps.getD t undef = v at h2
        cases h2 with | p h2 =>
          cases h2
          rw [Array.getD_eq_getD_getElem?] at hq
          cases hx : a.tmps[t]? with
          | none => rw [hx] at hq; simp [undef] at hq
          | some u => rw [hx] at hq; simp at hq; rw [hq]
      have hw : Region.wanted o (yielded ops a.tmps) = (b == want) := by
        simp only [Region.wanted, hg, yielded, h1, Option.bind_some, hv]
        cases b <;> cases want <;> rfl
      rw [hw]
      by_cases e : (b == want) = true
      · exact .inl ⟨e, h.1 e⟩
      · exact .inr ⟨by simpa using e, h.2 (by simpa using e)⟩
    · rename_i hb
      obtain ⟨t, h1, h2⟩ := hyl hb
      refine .inr ⟨?_, h⟩
      simp only [Region.wanted, hg, yielded, h1, Option.bind_some]
      generalize hq : a.tmps.getD t undef = v at h2
      cases h2 with
      | tup _ vs hl _ =>
        rw [Array.getD_eq_getD_getElem?] at hq
        cases hx : a.tmps[t]? with
        | none => rfl
        | some u => rw [hx] at hq; simp at hq; rw [hq]; rfl
    · exact h.elim
theorem Rel.drew (hr : Rel c st a w F M) : Rel c st a { w with drawn := w.drawn + 1 } F M := by
  have hs := SgKeep.refl M (sg st.hp)
  refine ⟨fun t d ht => (hr.env t d ht).keep (fun _ _ => rfl) (fun _ h => h) hs, hr.size, hr.defers, hr.heap.keep (fun _ _ => rfl) (fun _ _ => rfl), ?_⟩
  have hk := hr.keep
  exact ⟨hk.os, hk.tape, hk.output, hk.size, hk.old, hk.F0, hk.Fn, hk.Fl, hk.own, hk.sgk, hk.s0b⟩
theorem wOps_sound {Q : Exit → Act → World → Prop} {s : Bool} {K : St → Prop} (ops : Array Oper) (hQ : ∀ a w, Good c K a w → Q .normal a w) : ∀ (l : List Oper) {st : St} {a : Act} {w : World} {F : Nat → Prop} {M : Nat → Mb},
    Rel c st a w F M → wOps P s ops.toList l K st → wpList P ops Q l a w
  | [], st, a, w, F, M, hr, h => hQ _ _ ⟨st, F, M, h, hr⟩
  | o :: rest, st, a, w, F, M, hr, h => by
    simp only [wOps] at h
    refine wpList_step fun KK hKK => ?_
    have yes : wDo P s o (wOps P s ops.toList rest K) st → o.wp P a w KK Q := fun hy =>
      Oper.wp_mono (fun a' w' ⟨st', F', M', h1, h2⟩ => hKK _ _ (wOps_sound ops hQ rest h2 h1)) (wDo_sound hr hy Q)
    have no : wOps P s ops.toList rest K (st.put o.dst (.tup [])) → KK (a.put o.dst undef) w := fun hn =>
      hKK _ _ (wOps_sound ops hQ rest (hr.put (.tup [] #[] rfl (fun i d hd => by simp at hd)) o.dst) hn)
    rcases guard_sound hr h with ⟨hw, hy⟩ | ⟨hw, hn⟩
    · rw [if_pos hw]; exact yes hy
    · rw [if_neg (by rw [hw]; simp)]; exact no hn
theorem thn_QC {K : St → Prop} {Q : Exit → St → Prop} {e : Exit} {a : Act} {w : World} {N : Act → World → Prop} (hN : ∀ st F M, K st → Rel c st a w F M → N a w) (h : QC c (thn K Q) e a w) : Exit.then N (QC c Q) e a w := by
  obtain ⟨st, F, M, h1, h2⟩ := h
  cases e <;> first
    | exact hN st F M h1 h2
    | exact ⟨st, F, M, h1, h2⟩
theorem blk_QC {id : Nat} {Q : Exit → St → Prop} {e : Exit} {a : Act} {w : World} (h : QC c (blk id Q) e a w) : Exit.inBlock id (QC c Q) e a w := by
  obtain ⟨st, F, M, h1, h2⟩ := h
  cases e with
  | exit id' =>
    simp only [blk] at h1
    simp only [Exit.inBlock]
    split at h1
    · rename_i e; rw [if_pos e]; exact ⟨st, F, M, h1, h2⟩
    · rename_i e; rw [if_neg e]; exact ⟨st, F, M, h1, h2⟩
  | _ => exact ⟨st, F, M, h1, h2⟩
theorem wA_sound : ∀ (x : Code) {Q : Exit → St → Prop} {st : St} {a : Act} {w : World} {F : Nat → Prop} {M : Nat → Mb}, Rel c st a w F M → wA P x Q st → x.wp P (QC c Q) a w
  | .skip, Q, st, a, w, F, M, hr, h => wp_skip ⟨st, F, M, h, hr⟩
  | .label _, Q, st, a, w, F, M, hr, h => wp_label ⟨st, F, M, h, hr⟩
  | .ret, Q, st, a, w, F, M, hr, h => wp_ret ⟨st, F, M, h, hr⟩
  | .exit id, Q, st, a, w, F, M, hr, h => wp_exit ⟨st, F, M, h, hr⟩
  | .goto l, Q, st, a, w, F, M, hr, h => wp_goto ⟨st, F, M, h, hr⟩
  | .seq x y, Q, st, a, w, F, M, hr, h => by
    simp only [wA] at h
    exact wp_seq (Code.wp_mono (fun e a' w' hq => thn_QC (fun st F M h1 h2 => wA_sound y h2 h1) hq) (wA_sound x hr h))
  | .cond q x y, Q, st, a, w, F, M, hr, h => by
    simp only [wA] at h
    have hq := ev_sound hr q
    split at h
    · rename_i b hb
      rw [hb] at hq
      generalize hv : a.eval q = v at hq
      cases hq with | p hq =>
        cases hq
        exact wp_cond_split hv (fun e => wA_sound x hr (h.1 e)) (fun e => wA_sound y hr (h.2 e))
    · exact h.elim
  | .block id x, Q, st, a, w, F, M, hr, h => by
    simp only [wA] at h
    exact wp_block (Code.wp_mono (fun e a' w' hq => blk_QC hq) (wA_sound x hr h))
  | .loop x, Q, st, a, w, F, M, hr, h => by
    simp only [wA] at h
    obtain ⟨n, h⟩ := h
    refine wp_loop_rounds n ?_
    have key : ∀ (n : Nat) (st : St) (a : Act) (w : World) (F : Nat → Prop) (M : Nat → Mb), Rel c st a w F M → wLoop (wA P x) Q n st → Code.rounds P x (QC c Q) n a w := by
      intro n
      induction n with
      | zero => intro st a w F M _ h; exact h.elim
      | succ n ih =>
        intro st a w F M hr h
        rw [rounds_succ]
        obtain ⟨st1, hwk, h⟩ := h
        obtain ⟨F1, M1, hr1⟩ := hwk c a w F M hr
        exact Code.wp_mono (fun e a' w' hq => thn_QC (fun st F M h1 h2 => ih st _ _ F M h2 h1) hq) (wA_sound x hr1 h)
    exact key n st a w F M hr h
  | .scope x, Q, st, a, w, F, M, hr, h => by
    simp only [wA] at h
    exact h c a w F M hr
  | .region id ops draw, Q, st, a, w, F, M, hr, h => by
    simp only [wA] at h
    rcases h with ⟨rfl, h⟩ | ⟨rfl, h⟩
    · exact wp_region_list (wOps_sound ops (fun a' w' hg => hg) ops.toList hr h)
    · exact h c a w F M hr
  | .rangeFunc .., Q, st, a, w, F, M, hr, h => by simp only [wA] at h
  | .refuse _, Q, st, a, w, F, M, hr, h => by simp only [wA] at h
end
end Go.Am
namespace Go.Am
open Go
def envOf : Nat → List D → List (Nat × D)
  | _, [] => []
  | k, d :: r => (k, d) :: envOf (k + 1) r
def resD (P : Program) (st : St) : List ResultVar → (List D → Prop) → Prop
  | [], k => k []
  | .tmp t :: r, k => resD P st r fun ds => k ((get st.env t).getD .bad :: ds)
  | .cell t T :: r, k => loadD P st.hp T ((get st.env t).getD .bad) fun d => resD P st r fun ds => k (d :: ds)
def tupD : List D → D
  | [d] => d
  | ds => .tup ds
def retN (T : List Nat) (id : Nat) : Option Nat := if base ≤ id then (if id ∈ T then some id else none) else idx (T.filter (· < base)) 0 id
def pick (h : Hp) (ρ : Nat → Option Nat) : List Nat → Hp
  | [] => []
  | id :: r => match get h id, ρ id with
    | some o, some j => (j, o.ren ρ) :: pick h ρ r
    | _, _ => pick h ρ r
def retD (h0 : List Nat) (hp : Hp) (d : D) (R : Hp → D → Prop) : Prop :=
  let T := closeT hp (h0 ++ d.ids)
  T.Nodup ∧ (T.all fun id => (get hp id).isSome) = true ∧ (h0.all fun id => base ≤ id && T.contains id) = true ∧ (T.filter (· < base)).length ≤ base ∧
  R (pick hp (retN T) T) (d.ren (retN T))
def endD (h0 : List Nat) (hp : Hp) (d : D) (R : Hp → D → Prop) : Prop :=
  retD h0 hp d R ∨ borD hp d fun d' h' => retD h0 h' d' R
def endQ (P : Program) (fn : Func) (h0 : List Nat) (R : Hp → D → Prop) : Exit → St → Prop
  | .normal, st | .ret, st => resD P st fn.results.toList fun ds => endD h0 st.hp (tupD ds) R
  | _, _ => False
section
variable {P : Program} {c : Ctx} {st : St} {a : Act} {w : World} {F : Nat → Prop} {M : Nat → Mb}
theorem get_envOf : ∀ (ds : List D) (k t : Nat) (d : D), get (envOf k ds) t = some d → k ≤ t ∧ ds[t - k]? = some d
  | [], k, t, d, h => by simp [envOf, get] at h
  | x :: r, k, t, d, h => by
    simp only [envOf, get_cons] at h
    split at h
    · rename_i e; cases h; subst e; exact ⟨Nat.le_refl _, by simp⟩
    · obtain ⟨h1, h2⟩ := get_envOf r (k + 1) t d h
      exact ⟨by omega, by rw [show t - k = (t - (k + 1)) + 1 from by omega]; simpa using h2⟩
theorem Rel.start {h : Hp} {args : List D} {vs : Array Value} {n : Nat} (hHR : HR F w M h) (hFl : ∀ b, F b → b < w.heap.size) (hsb : ∀ id, sg h id ≠ none → base ≤ id) (hd : DRl F w M (sg h) args vs.toList) (hn : args.length ≤ n) :
    Rel ⟨w, F, Owned M h, M, sg h⟩ ⟨envOf 0 args, h, n⟩ { tmps := vs ++ Array.replicate (n - vs.size) undef, defers := [] } w F M := by
  have hl : vs.size = args.length := by simpa using hd.1
  refine ⟨fun t d ht => ?_, by simp; omega, rfl, hHR, ⟨rfl, rfl, rfl, Nat.le_refl _, fun _ _ _ => rfl, fun _ h => h, fun _ h => .inl h, hFl, fun _ h => .inl h, SgKeep.refl _ _, hsb⟩⟩
  obtain ⟨_, h2⟩ := get_envOf args 0 t d ht
  have h3 := hd.2 t d (by simpa using h2)
  have hlt := (List.getElem?_eq_some_iff.1 h2).1
  have e : (vs ++ Array.replicate (n - vs.size) undef).getD t undef = vs.toList.getD t undef := by
    rw [Array.getD_eq_getD_getElem?, List.getD_eq_getElem?_getD, Array.getElem?_append, if_pos (by omega), Array.getElem?_toList]
  rw [e]; exact h3
theorem resD_sound (hr : Rel c st a w F M) : ∀ (rs : List ResultVar) {k : List D → Prop}, resD P st rs k →
    ∃ ds vs, k ds ∧ DRl F w M (sg st.hp) ds vs ∧ (rs.mapM fun | .tmp t => pure (a.tmps.getD t undef) | .cell q t => do loadVar t (← asAddr (a.tmps.getD q undef)) : Sem (List Value)).run P w = .ok vs w
  | [], k, h => ⟨[], [], h, ⟨rfl, fun i d hd => by simp at hd⟩, by simp⟩
  | .tmp t :: r, k, h => by
    simp only [resD] at h
    obtain ⟨ds, vs, h1, h2, h3⟩ := resD_sound hr r h
    have hd : DR F w M (sg st.hp) ((get st.env t).getD .bad) (a.tmps.getD t undef) := ev_sound hr (.tmp t)
    refine ⟨_, a.tmps.getD t undef :: vs, h1, ⟨by simp [h2.1], fun i d hd' => ?_⟩, ?_⟩
    · cases i with
      | zero => simp only [List.getElem?_cons_zero, Option.some.injEq] at hd'; subst hd'; simpa [List.getD] using hd
      | succ i => simp only [List.getElem?_cons_succ] at hd'; simpa [List.getD] using h2.2 i d hd'
    · rw [List.mapM_cons, Sem.run_bind, Sem.run_pure, Result.andThen_ok, Sem.run_bind, h3]; rfl
  | .cell t T :: r, k, h => by
    simp only [resD] at h
    have hd : DR F w M (sg st.hp) ((get st.env t).getD .bad) (a.tmps.getD t undef) := ev_sound hr (.tmp t)
    obtain ⟨d, v, h4, h5, h6⟩ := loadD_sound hr.heap h hd
    obtain ⟨ds, vs, h1, h2, h3⟩ := resD_sound hr r h4
    refine ⟨_, v :: vs, h1, ⟨by simp [h2.1], fun i d hd' => ?_⟩, ?_⟩
    · cases i with
      | zero => simp only [List.getElem?_cons_zero, Option.some.injEq] at hd'; subst hd'; simpa [List.getD] using h5
      | succ i => simp only [List.getElem?_cons_succ] at hd'; simpa [List.getD] using h2.2 i d hd'
    · have h7 : (do loadVar T (← asAddr (a.tmps.getD t undef)) : Sem Value).run P w = .ok v w := by
        generalize a.tmps.getD t undef = x at h6
        cases x <;> simp [Instr.loadAt, Instr.sureAddr] at h6
        rename_i ad
        cases ad <;> simp [Instr.sureAddr] at h6
        simpa [asAddr] using h6
      rw [List.mapM_cons, Sem.run_bind, h7, Result.andThen_ok, Sem.run_bind, h3]; rfl
theorem tupD_sound {s : Nat → Option Sg} {ds : List D} {vs : List Value} (h : DRl F w M s ds vs) : DR F w M s (tupD ds) (if hx : vs.toArray.size = 1 then vs.toArray[0] else .tuple vs.toArray) := by
  have hl := h.1
  have tup : ds.length ≠ 1 → tupD ds = .tup ds := by
    intro hne
    cases ds with
    | nil => rfl
    | cons d r => cases r with
      | nil => simp at hne
      | cons _ _ => rfl
  by_cases e : ds.length = 1
  · obtain ⟨d, rfl⟩ := List.length_eq_one_iff.1 e
    obtain ⟨v, rfl⟩ := List.length_eq_one_iff.1 (hl.trans e)
    have := h.2 0 d rfl
    simpa [tupD, List.getD] using this
  · rw [tup e, dif_neg (by simp; omega)]
    exact .tup ds vs.toArray (by simpa using hl) (fun i d hd => by have := h.2 i d hd; simpa [List.getD, Array.getD_eq_getD_getElem?] using this)
theorem get_pick {h : Hp} {ρ : Nat → Option Nat} : ∀ {T : List Nat} {j : Nat} {o : AO}, get (pick h ρ T) j = some o → ∃ id o2, id ∈ T ∧ ρ id = some j ∧ get h id = some o2 ∧ o = o2.ren ρ
  | [], j, o, hg => by simp [pick, get] at hg
  | id :: r, j, o, hg => by
    simp only [pick] at hg
    split at hg
    · rename_i o2 k ho hk
      rw [get_cons] at hg
      split at hg
      · rename_i e; subst e; cases hg; exact ⟨id, o2, by simp, hk, ho, rfl⟩
      · obtain ⟨i, o3, h1, h2⟩ := get_pick hg; exact ⟨i, o3, by simp [h1], h2⟩
    · obtain ⟨i, o3, h1, h2⟩ := get_pick hg; exact ⟨i, o3, by simp [h1], h2⟩
theorem get_pick_of {h : Hp} {ρ : Nat → Option Nat} (hinj : ∀ i i' j, ρ i = some j → ρ i' = some j → i = i') : ∀ {T : List Nat} {id j : Nat} {o : AO}, id ∈ T → ρ id = some j → get h id = some o →
    get (pick h ρ T) j = some (o.ren ρ)
  | [], id, j, o, hm, _, _ => by simp at hm
  | x :: r, id, j, o, hm, hj, ho => by
    simp only [pick]
    by_cases e : x = id
    · subst e; rw [ho, hj]; simp [get_cons]
    · have hm' : id ∈ r := by
        rcases List.mem_cons.1 hm with h1 | h1
        · exact (e h1.symm).elim
        · exact h1
      have ih := get_pick_of hinj hm' hj ho
      split
      · rename_i o2 k ho2 hk
        rw [get_cons, if_neg (fun e2 => e (hinj x id j (by rw [hk, e2]) hj))]
        exact ih
      · exact ih
theorem retN_inj {T : List Nat} (hlen : (T.filter (· < base)).length ≤ base) (i i' j : Nat) (h : retN T i = some j) (h' : retN T i' = some j) : i = i' := by
  unfold retN at h h'
  by_cases e1 : base ≤ i <;> by_cases e2 : base ≤ i'
  · rw [if_pos e1] at h; rw [if_pos e2] at h'
    split at h <;> split at h' <;> simp_all
  · rw [if_pos e1] at h; rw [if_neg e2] at h'
    obtain ⟨p, rfl, hp⟩ := idx_spec _ _ _ _ h'
    split at h
    · simp only [Option.some.injEq] at h
      have := (List.getElem?_eq_some_iff.1 hp).1
      omega
    · cases h
  · rw [if_neg e1] at h; rw [if_pos e2] at h'
    obtain ⟨p, rfl, hp⟩ := idx_spec _ _ _ _ h
    split at h'
    · simp only [Option.some.injEq] at h'
      have := (List.getElem?_eq_some_iff.1 hp).1
      omega
    · cases h'
  · rw [if_neg e1] at h; rw [if_neg e2] at h'
    obtain ⟨p, rfl, hp⟩ := idx_spec _ _ _ _ h
    obtain ⟨p', e3, hp'⟩ := idx_spec _ _ _ _ h'
    have : p = p' := by omega
    subst this
    rw [hp] at hp'
    exact (Option.some.inj hp')
theorem retD_sound (hr : Rel c st a w F M) {h0 : Hp} (hs0 : c.s0 = sg h0) (hO : ∀ b, c.O0 b ↔ Owned c.M0 h0 b) {d : D} {v : Value} {R : Hp → D → Prop} (hd : DR F w M (sg st.hp) d v) (h : retD (h0.map (·.1)) st.hp d R) :
    ∃ h' r M', R h' r ∧ HR F w M' h' ∧ DR F w M' (sg h') r v ∧ Keep c w F M' h' := by
  unfold retD at h
  generalize closeT st.hp (h0.map (·.1) ++ d.ids) = T at h
  obtain ⟨hT, hall, h0T, hlen, hR⟩ := h
  have hinj := retN_inj hlen
  let M' : Nat → Mb := fun j => if base ≤ j then M j else M ((T.filter (· < base)).getD j 0)
  have hρ : ∀ id j, retN T id = some j → id ∈ T ∧ M' j = M id := by
    intro id j hj
    unfold retN at hj
    by_cases e : base ≤ id
    · rw [if_pos e] at hj
      split at hj
      · rename_i hm
        simp only [Option.some.injEq] at hj
        subst hj
        exact ⟨hm, by simp only [M', if_pos e]⟩
      · cases hj
    · rw [if_neg e] at hj
      obtain ⟨i, rfl, hi⟩ := idx_spec _ _ _ _ hj
      have hlt := (List.getElem?_eq_some_iff.1 hi).1
      refine ⟨(List.mem_filter.1 (List.mem_of_getElem? hi)).1, ?_⟩
      simp only [M']
      rw [if_neg (by omega), List.getD_eq_getElem?_getD, Nat.zero_add, hi, Option.getD_some]
  have hsg : ∀ id j, retN T id = some j → sg st.hp id ≠ none → M' j = M id ∧ sg (pick st.hp (retN T) T) j = sg st.hp id := by
    intro id j hj hs
    obtain ⟨hm, hM⟩ := hρ id j hj
    refine ⟨hM, ?_⟩
    cases ho : get st.hp id with
    | none => exact (hs (by simp [sg, ho])).elim
    | some o =>
      have := get_pick_of hinj hm hj ho
      simp [sg, this, ho, AO.ren_sg]
  have hown : ∀ b, Owned M' (pick st.hp (retN T) T) b → Owned M st.hp b := by
    rintro b ⟨j, o, hj, ho⟩
    obtain ⟨id, o2, hm, h1, h2, rfl⟩ := get_pick hj
    rw [(hρ id j h1).2] at ho
    exact ⟨id, o2, h2, (AO.ren_owns _ _ _ _).1 ho⟩
  refine ⟨_, _, M', hR, ?_, hd.ren hsg, ?_⟩
  · constructor
    · intro j o hj
      obtain ⟨id, o2, hm, h1, h2, rfl⟩ := get_pick hj
      rw [(hρ id j h1).2]
      exact (hr.heap.obj id o2 h2).ren hsg
    · intro j o j' o' b hj hj' ho ho'
      obtain ⟨id, o2, hm, h1, h2, rfl⟩ := get_pick hj
      obtain ⟨id', o2', hm', h1', h2', rfl⟩ := get_pick hj'
      rw [(hρ id j h1).2] at ho
      rw [(hρ id' j' h1').2] at ho'
      have := hr.heap.inj id o2 id' o2' b h2 h2' ((AO.ren_owns _ _ _ _).1 ho) ((AO.ren_owns _ _ _ _).1 ho')
      subst this
      rw [h1] at h1'
      exact Option.some.inj h1'
  · have hk := hr.keep
    have h0spec : ∀ id, sg h0 id ≠ none → base ≤ id ∧ id ∈ T := by
      intro id hs
      have hmem : id ∈ h0.map (·.1) := by
        clear hs0 hO h0T hR
        induction h0 with
        | nil => simp [sg, get] at hs
        | cons q r ih =>
          obtain ⟨k, o⟩ := q
          simp only [List.map_cons, List.mem_cons]
          by_cases e : id = k
          · exact .inl e
          · right
            apply ih
            simpa [sg, get_cons, Ne.symm e] using hs
      have := List.all_eq_true.1 h0T id hmem
      simp only [Bool.and_eq_true, decide_eq_true_eq] at this
      exact ⟨this.1, by simpa using this.2⟩
    have hkeepid : ∀ id, sg h0 id ≠ none → retN T id = some id := fun id hs => by
      obtain ⟨h1, h2⟩ := h0spec id hs
      unfold retN
      rw [if_pos h1, if_pos h2]
    refine ⟨hk.os, hk.tape, hk.output, hk.size, hk.old, hk.F0, hk.Fn, hk.Fl, fun b hb => hk.own b (hown b hb), ?_, hk.s0b⟩
    have hsk := hk.sgk
    rw [hs0] at hsk ⊢
    refine ⟨fun id hi => ?_, fun id sz n hi => ?_, fun id sz n kk hi => ?_⟩
    · obtain ⟨h1, h2⟩ := hsk.1 id hi
      have h3 := hsg id id (hkeepid id (by rw [hi]; simp)) (by rw [h1]; simp)
      exact ⟨by rw [h3.2, h1], by rw [h3.1, h2]⟩
    · obtain ⟨n', h1, h1', h2⟩ := hsk.2.1 id sz n hi
      have h3 := hsg id id (hkeepid id (by rw [hi]; simp)) (by rw [h1]; simp)
      exact ⟨n', by rw [h3.2, h1], h1', fun e => by rw [h3.1, h2 e]⟩
    · obtain ⟨n', k', h1, h1', h1'', h2, h2'⟩ := hsk.2.2 id sz n kk hi
      have h3 := hsg id id (hkeepid id (by rw [hi]; simp)) (by rw [h1]; simp)
      exact ⟨n', k', by rw [h3.2, h1], h1', h1'', fun e => by rw [h3.1]; exact h2 e, fun e => by rw [h3.1]; exact h2' e⟩
theorem ACalls_of {f : FuncId} {fn : Func} {code : Code} {args : List D} {h : Hp} {R : Hp → D → Prop} {Q : Exit → St → Prop} (hf : P.funcs[f]? = some fn) (hb : fn.body = some code) (hent : Enters P f)
    (hn : args.length ≤ fn.ntmps) (hQ : ∀ e st, Q e st → endQ P fn (h.map (·.1)) R e st) (hw : wA P code Q ⟨envOf 0 args, h, fn.ntmps⟩) : ACalls P f args h R := by
  refine fun vs w F M hHR hFl hsb hd => .inl ⟨hent vs w, calls_of_wp hf hb (Code.wp_mono ?_ (wA_sound code (Rel.start hHR hFl hsb hd hn) hw))⟩
  rintro e a w' ⟨st, F', M', hq0, hr⟩
  have hq := hQ e st hq0
  have key : resD P st fn.results.toList (fun ds => endD (h.map (·.1)) st.hp (tupD ds) R) → a.defers = [] ∧ ∃ v, (results fn a.tmps).run P w' = .ok v w' ∧
      ∃ v2 h' r F' M', Ending.returned v = Ending.returned v2 ∧ R h' r ∧ HR F' w' M' h' ∧ DR F' w' M' (sg h') r v2 ∧ Keep ⟨w, F, Owned M h, M, sg h⟩ w' F' M' h' := by
    intro hres
    obtain ⟨ds, vs2, h1, h2, h3⟩ := resD_sound hr _ hres
    have hv := tupD_sound h2
    refine ⟨hr.defers, (if hx : vs2.toArray.size = 1 then vs2.toArray[0] else .tuple vs2.toArray), ?_, ?_⟩
    rotate_left
    · rcases h1 with h1 | h1
      · obtain ⟨h', r, M2, h4, h5, h6, h7⟩ := retD_sound hr rfl (fun _ => Iff.rfl) hv h1
        exact ⟨_, h', r, F', M2, rfl, h4, h5, h6, h7⟩
      · obtain ⟨d', h2', F2, h4, hr2, hF2, hs2, hd2⟩ := borD_sound _ hr hv h1
        obtain ⟨h', r, M2, h4, h5, h6, h7⟩ := retD_sound hr2 rfl (fun _ => Iff.rfl) hd2 h4
        exact ⟨_, h', r, F2, M2, rfl, h4, h5, h6, h7⟩
    · unfold results
      rw [Sem.run_bind, Array.mapM_eq_mapM_toList, Sem.run_map]
      refine (congrArg (fun r => (r.andThen fun a w' => Result.ok a.toArray w').andThen fun (a : Array Value) w' => Sem.run P (pure (if h : a.size = 1 then a[0] else Value.tuple a)) w') h3).trans ?_
      simp
  cases e <;> first
    | exact key hq
    | exact hq.elim
end
end Go.Am
namespace Go.Am
open Go
theorem nd.{u} {α : Sort u} {a b : α} (h : a = b) : a = b := h
def resR (P : Program) (st : St) : List ResultVar → Rs (List D)
  | [] => .ret True []
  | .tmp t :: r => (resR P st r).bind fun ds => .ret True ((get st.env t).getD .bad :: ds)
  | .cell t T :: r => (loadR P st.hp T ((get st.env t).getD .bad)).bind fun d => (resR P st r).bind fun ds => .ret True (d :: ds)
theorem resR_all {P : Program} {st : St} : ∀ {rs : List ResultVar} {k : List D → Prop}, (resR P st rs).all k → resD P st rs k
  | [], k, h => h.2
  | .tmp t :: r, k, h => by
    simp only [resR] at h
    simp only [resD]
    exact resR_all (Rs.all_mono (fun ds hd => hd.2) (Rs.all_bind h))
  | .cell t T :: r, k, h => by
    simp only [resR] at h
    simp only [resD]
    exact loadR_all (Rs.all_mono (fun d hd => resR_all (Rs.all_mono (fun ds hd => hd.2) (Rs.all_bind hd))) (Rs.all_bind h))
inductive Kt where
  | user (Q : Exit → St → Prop)
  | fin (rs : List ResultVar) (h0 : List Nat) (R : Hp → D → Prop)
  | seq (y : Code) (k : Kt)
  | blk (id : Nat) (k : Kt)
  | lp (x : Code) (n : Nat) (k : Kt)
def Kt.sem (P : Program) : Kt → Exit → St → Prop
  | .user Q => Q
  | .fin rs h0 R => fun e st => match e with
    | .normal | .ret => (resR P st rs).all fun ds => endD h0 st.hp (tupD ds) R
    | _ => False
  | .seq y k => thn (wA P y (k.sem P)) (k.sem P)
  | .blk id k => Go.Am.blk id (k.sem P)
  | .lp x n k => thn (wLoop (wA P x) (k.sem P) n) (k.sem P)
def X (P : Program) (c : Code) (k : Kt) (st : St) : Prop := wA P c (k.sem P) st
def J (P : Program) (k : Kt) (e : Exit) (st : St) : Prop := k.sem P e st
def O (P : Program) (s : Bool) (ops rest : List Oper) (k : Kt) (st : St) : Prop := wOps P s ops rest (k.sem P .normal) st
def L (P : Program) (x : Code) (k : Kt) (n : Nat) (st : St) : Prop := wLoop (wA P x) (k.sem P) n st
def Af (P : Program) (s : Bool) (ops rest : List Oper) (k : Kt) (o : Oper) (st : St) (r : Rs (D × Hp)) : Prop :=
  r.allOr (s = true ∧ SemOp P o (O P s ops rest k) st) fun x => O P s ops rest k (({ st with hp := x.2 } : St).put o.dst x.1)
def Cl (P : Program) (s : Bool) (ops rest : List Oper) (k : Kt) (o : Oper) (st : St) (r : Rs (FuncId × List D × Hp)) : Prop :=
  r.allOr (s = true ∧ SemOp P o (O P s ops rest k) st) fun x => callDO (s = true ∧ SemOp P o (O P s ops rest k) st) P x.2.2 x.1 x.2.1 (o.dst.getD 0) fun d h' => O P s ops rest k (({ st with hp := h' } : St).put o.dst d)
def Do (P : Program) (s : Bool) (ops rest : List Oper) (k : Kt) (o : Oper) (st : St) : Prop := wDo P s o (wOps P s ops rest (k.sem P .normal)) st
def Cn (P : Program) (x y : Code) (k : Kt) (st : St) (d : D) : Prop := match d with
  | .p (.bool b) => WIf b (X P x k st) (X P y k st)
  | _ => False
inductive Gv where
  | yes | no | cond (b : Bool) | bad
def gval (st : St) (ops : List Oper) (g : Option (Nat × Bool)) : Gv :=
  match g with
  | none => .yes
  | some (j, want) => match ((ops[j]?).bind (·.dst)).bind (get st.env) with
    | some (.p (.bool b)) => .cond (b == want)
    | some (.tup []) => .no
    | _ => .bad
def Gu (P : Program) (s : Bool) (ops rest : List Oper) (k : Kt) (o : Oper) (st : St) : Gv → Prop
  | .yes => Do P s ops rest k o st
  | .no => O P s ops rest k (st.put o.dst (.tup []))
  | .cond b => WIf b (Do P s ops rest k o st) (O P s ops rest k (st.put o.dst (.tup [])))
  | .bad => False
section
variable {P : Program} {s : Bool} {ops rest l : List Oper} {k : Kt} {st : St} {x y : Code} {id i n : Nat} {o : Oper} {dst : Option Nat} {b : Bool}
theorem X_skip : X P .skip k st = J P k .normal st := nd rfl
theorem X_ret : X P .ret k st = J P k .ret st := nd rfl
theorem X_exit : X P (.exit i) k st = J P k (.exit i) st := nd rfl
theorem X_seq : X P (.seq x y) k st = X P x (.seq y k) st := nd rfl
theorem X_cond (c : Operand) : X P (.cond c x y) k st = Cn P x y k st (ev st c) := nd rfl
theorem X_block : X P (.block id x) k st = X P x (.blk id k) st := nd rfl
theorem X_region : X P (.region id l.toArray false) k st = O P true l l k st := by
  unfold X O; simp [wA]
theorem X_loop (n : Nat) (h : L P x k n st) : X P (.loop x) k st := ⟨n, h⟩
theorem L_succ : L P x k (n + 1) st = ∃ st1, Wk st st1 ∧ X P x (.lp x n k) st1 := nd rfl
theorem J_seq_normal : J P (.seq y k) .normal st = X P y k st := nd rfl
theorem J_seq_ret : J P (.seq y k) .ret st = J P k .ret st := nd rfl
theorem J_seq_exit : J P (.seq y k) (.exit i) st = J P k (.exit i) st := nd rfl
theorem J_blk_normal : J P (.blk id k) .normal st = J P k .normal st := nd rfl
theorem J_blk_ret : J P (.blk id k) .ret st = J P k .ret st := nd rfl
theorem J_blk_exit : J P (.blk id k) (.exit i) st = if i = id then J P k .normal st else J P k (.exit i) st := nd rfl
theorem J_lp_normal : J P (.lp x n k) .normal st = L P x k n st := nd rfl
theorem J_lp_ret : J P (.lp x n k) .ret st = J P k .ret st := nd rfl
theorem J_lp_exit : J P (.lp x n k) (.exit i) st = J P k (.exit i) st := nd rfl
theorem O_nil : O P s ops [] k st = J P k .normal st := nd rfl
theorem O_cons : O P s ops (o :: rest) k st = Gu P s ops rest k o st (gval st ops o.guard) := by
  unfold O Gu gval
  simp only [wOps, guardD]
  cases o.guard with
  | none => rfl
  | some g =>
    obtain ⟨j, want⟩ := g
    simp only
    cases ((ops[j]?).bind (·.dst)).bind (get st.env) with
    | none => rfl
    | some d =>
      cases d with
      | p q => cases q <;> rfl
      | tup cs => cases cs <;> rfl
      | _ => rfl
theorem Gu_yes : Gu P s ops rest k o st .yes = Do P s ops rest k o st := nd rfl
theorem Gu_no : Gu P s ops rest k o st .no = O P s ops rest k (st.put o.dst (.tup [])) := nd rfl
theorem Gu_true : Gu P s ops rest k o st (.cond true) = Do P s ops rest k o st := by simp [Gu]
theorem Gu_false : Gu P s ops rest k o st (.cond false) = O P s ops rest k (st.put o.dst (.tup [])) := by simp [Gu]
theorem Do_eq : Do P s ops rest k o st = match isCall o.op with
    | some (f, args) => Cl P s ops rest k o st (callR st f args)
    | none => Af P s ops rest k o st (doR P st o) := by
  unfold Do wDo Cl Af
  cases isCall o.op <;> rfl
theorem Af_ret (p : Prop) (d : D) (h : Hp) : Af P s ops rest k o st (.ret p (d, h)) = (p ∧ O P s ops rest k (({ st with hp := h } : St).put o.dst d)) := nd rfl
theorem Af_true (r r2 : Rs (D × Hp)) : Af P s ops rest k o st (.split true r r2) = Af P s ops rest k o st r := by simp [Af, Rs.allOr]
theorem Af_false (r r2 : Rs (D × Hp)) : Af P s ops rest k o st (.split false r r2) = Af P s ops rest k o st r2 := by simp [Af, Rs.allOr]
theorem Cn_true : Cn P x y k st (.p (.bool true)) = X P x k st := by simp [Cn]
theorem Cn_false : Cn P x y k st (.p (.bool false)) = X P y k st := by simp [Cn]
theorem Cn_split (h1 : b = true → X P x k st) (h2 : b = false → X P y k st) : Cn P x y k st (.p (.bool b)) := ⟨h1, h2⟩
def Sm (P : Program) (s : Bool) (ops rest : List Oper) (k : Kt) (o : Oper) (st : St) : Prop := s = true ∧ SemOp P o (O P s ops rest k) st
def Ck (P : Program) (s : Bool) (ops rest : List Oper) (k : Kt) (dst : Option Nat) (st : St) (f : FuncId) (ds : List D) (h : Hp) (T : List Nat) (S : Prop) : Prop :=
  (ACalls P f (renL (idx T base) ds) (sub h (idx T base) base T) fun h' r => fresh (dst.getD 0) h h' ∧ O P s ops rest k (({ st with hp := merge T (dst.getD 0) h h' } : St).put dst (r.ren (back T (dst.getD 0))))) ∨ S
theorem Cl_ret (p : Prop) (f : FuncId) (ds : List D) (h : Hp) : Cl P s ops rest k o st (.ret p (f, ds, h)) =
    (p ∧ (closeT h (idsL ds)).Nodup ∧ ((closeT h (idsL ds)).all fun id => (get h id).isSome) = true ∧ Ck P s ops rest k o.dst st f ds h (closeT h (idsL ds)) (Sm P s ops rest k o st)) := nd rfl
def En (P : Program) (h0 : List Nat) (R : Hp → D → Prop) (hp : Hp) (r : Rs (List D)) : Prop := r.all fun ds => endD h0 hp (tupD ds) R
theorem J_fin_ret (rs : List ResultVar) (h0 : List Nat) (R : Hp → D → Prop) : J P (.fin rs h0 R) .ret st = En P h0 R st.hp (resR P st rs) := nd rfl
theorem J_fin_normal (rs : List ResultVar) (h0 : List Nat) (R : Hp → D → Prop) : J P (.fin rs h0 R) .normal st = En P h0 R st.hp (resR P st rs) := nd rfl
theorem En_ret (h0 : List Nat) (R : Hp → D → Prop) (hp : Hp) (p : Prop) (ds : List D) : En P h0 R hp (.ret p ds) = (p ∧ endD h0 hp (tupD ds) R) := nd rfl
theorem endD_own {h0 : List Nat} {hp : Hp} {d : D} {R : Hp → D → Prop} (h : retD h0 hp d R) : endD h0 hp d R := .inl h
theorem endD_pure {h0 : List Nat} {hp : Hp} {d : D} {R : Hp → D → Prop} (h : (borDR hp d).all fun x => retD h0 x.2 x.1 R) : endD h0 hp d R := .inr (borDR_all (k := fun d h => retD h0 h d R) h)
theorem ACalls_X {f : FuncId} {fn : Func} {code : Code} {args : List D} {h : Hp} {R : Hp → D → Prop} (hf : P.funcs[f]? = some fn) (hb : fn.body = some code) (hent : Enters P f)
    (hn : args.length ≤ fn.ntmps) (hw : X P code (.fin fn.results.toList (h.map (·.1)) R) ⟨envOf 0 args, h, fn.ntmps⟩) : ACalls P f args h R := by
  refine ACalls_of hf hb hent hn (fun e st h1 => ?_) hw
  cases e <;> first
    | exact resR_all h1
    | exact h1.elim
theorem wrap_i64_id {x : Int} (h0 : -9223372036854775808 ≤ x) (h1 : x ≤ 9223372036854775807) : IntKind.i64.wrap x = x := by rw [IntKind.wrap_i64]; omega
attribute [go_sem] X_skip X_ret X_exit X_seq X_cond X_block X_region J_seq_normal J_seq_ret J_seq_exit J_blk_normal J_blk_ret J_blk_exit J_lp_normal J_lp_ret J_lp_exit O_nil O_cons Gu_yes Gu_no Gu_true Gu_false Do_eq Af_ret Af_true Af_false Cn_true Cn_false Cl_ret J_fin_ret J_fin_normal En_ret gval isCall callR doR vOpR mOpR builtinR lenR borR borDR borDsR appR stopAt copyR storeR srcR purR pursR extractR buildR sliceR boundR indexR indexAddrR fieldR fieldAddrR convR pickR unR binR binBR loadR partPR partR resR Rs.bind Rs.and get ev St.put setL tupD ofV ofVs D.one D.cells D.stored TK.isAgg chunk froze envOf fillD placesD idsL D.ids ghost ghosts closeT addNew idsAt AO.ids idx sub curR
attribute [go_sem] nstStoreR nstK TK.isSl D.isNilS nilRows List.isEmpty_cons List.isEmpty_nil Bool.and_false Bool.false_and Option.some.injEq reduceCtorEq if_true if_false
attribute [go_sem] eqAgg cmpK keepT npT D.isNp List.any_cons List.any_nil Bool.or_self Bool.false_or Bool.or_false Bool.true_or Bool.or_true Bool.false_eq_true
attribute [go_sem] List.getElem?_toArray List.size_toArray true_and and_true Option.getD_some Option.getD_none Nat.zero_add List.map_cons List.map_nil Option.bind_some Option.bind_none List.getElem?_cons_zero List.getElem?_cons_succ List.getElem?_nil List.length_cons List.length_nil List.cons_append List.nil_append List.append_nil List.all_cons List.all_nil Bool.and_self Option.isSome_some List.nodup_nil List.drop_zero List.take_zero List.drop_succ_cons List.take_succ_cons List.drop_nil List.take_nil beq_self_eq_true beq_true beq_false Bool.not_true Bool.not_false Option.map_some Option.map_none Bool.true_and Bool.and_true List.replicate_succ List.replicate_zero ne_eq not_false_eq_true not_true_eq_false and_self
end
end Go.Am
namespace Go.Am
open Go
def isV (o : Op) : Bool :=
  match o with
  | .call c => match c.callee with
    | .builtin .len | .builtin .min | .builtin .max => true
    | _ => false
  | .alloc _ | .box _ _ | .store _ _ _ | .buildSlice _ _ _ | .makeSlice _ _ _ | .makeMap _ _ | .mapUpdate _ _ _ _ => false
  | _ => true
section
variable {P : Program} {c : Ctx} {st : St} {a : Act} {w : World} {F : Nat → Prop} {M : Nat → Mb}
theorem isV_sound (hr : Rel c st a w F M) {o : Oper} (hv : isV o.op = true) {K : St → Prop} (h : wDo P false o K st) :
    ∃ d v, K (st.put o.dst d) ∧ DR F w M (sg st.hp) d v ∧ (execOp a.eval o).run P w = .ok (.value v) w := by
  have hn : isCall o.op = none := by
    cases ho : o.op <;> simp only [ho, isV] at hv <;> simp only [isCall]
    rename_i cl
    cases hc : cl.callee <;> simp only [hc] at hv
    · exact (Bool.false_ne_true hv).elim
    · rfl
    · rfl
  unfold wDo at h
  rw [hn] at h
  simp only at h
  rcases Rs.allOr_or h with h | h
  case inr => exact (Bool.false_ne_true h.1).elim
  unfold doR at h
  split at h
  · rename_i cl ho
    rw [ho] at hv
    split at h
    · rename_i b hb
      have hbb := builtinR_all (k := fun d h => K (({ st with hp := h } : St).put o.dst d)) h
      simp only [isV, hb] at hv
      unfold builtinD at hbb
      generalize hl : cl.args.toList.map (ev st) = l at hbb
      split at hbb
      · obtain ⟨xq, hxs, rfl⟩ := list_one hl
        split at hbb
        case h_2 => exact hbb.elim
        rename_i t ht
        obtain ⟨d, v, h1, h2, h3⟩ := lenD_sound (P := P) hbb (ev_sound hr xq) cl.argTypes o.type ht
        exact ⟨d, v, h1, h2, by simp [execOp, ho, hb, resolve, invoke, builtin, hxs, h3]⟩
      · simp at hv
      · simp at hv
      · obtain ⟨d, h', v, w', M', hk, hr', hd, hrun⟩ := builtinD_sound hr ho hb (builtinR_all (k := fun d h => K (({ st with hp := h } : St).put o.dst d)) h)
        rename_i k1 x k2 y
        obtain ⟨xq, yq, hxs, hx, hy⟩ := list_two hl
        obtain ⟨rfl, hk⟩ := hbb
        have h1 := ev_sound hr xq
        have h2 := ev_sound hr yq
        rw [hx] at h1
        rw [hy] at h2
        generalize hvx : a.eval xq = vx at h1
        generalize hvy : a.eval yq = vy at h2
        cases h1 with | p h1 => cases h1; cases h2 with | p h2 =>
          cases h2
          exact ⟨_, _, hk, .p (.int _ _), by simp [execOp, ho, hb, resolve, invoke, builtin, hxs, hvx, hvy, run_min_int2]⟩
      · rename_i k1 x k2 y
        obtain ⟨xq, yq, hxs, hx, hy⟩ := list_two hl
        obtain ⟨rfl, hk⟩ := hbb
        have h1 := ev_sound hr xq
        have h2 := ev_sound hr yq
        rw [hx] at h1
        rw [hy] at h2
        generalize hvx : a.eval xq = vx at h1
        generalize hvy : a.eval yq = vy at h2
        cases h1 with | p h1 => cases h1; cases h2 with | p h2 =>
          cases h2
          exact ⟨_, _, hk, .p (.int _ _), by simp [execOp, ho, hb, resolve, invoke, builtin, hxs, hvx, hvy, run_max_int2]⟩
      · rename_i k1 x k2 y k3 z
        obtain ⟨xq, yq, zq, hxs, hx, hy, hz⟩ := list_three hl
        obtain ⟨⟨rfl, rfl⟩, hk⟩ := hbb
        have h1 := ev_sound hr xq
        have h2 := ev_sound hr yq
        have h3 := ev_sound hr zq
        rw [hx] at h1
        rw [hy] at h2
        rw [hz] at h3
        generalize hvx : a.eval xq = vx at h1
        generalize hvy : a.eval yq = vy at h2
        generalize hvz : a.eval zq = vz at h3
        cases h1 with | p h1 => cases h1; cases h2 with | p h2 => cases h2; cases h3 with | p h3 =>
          cases h3
          exact ⟨_, _, hk, .p (.int _ _), by simp [execOp, ho, hb, resolve, invoke, builtin, hxs, hvx, hvy, hvz, run_min3]⟩
      · exact hbb.elim
    · exact h.elim
  · rename_i ho; rw [ho] at hv; simp [isV] at hv
  · rename_i ho; rw [ho] at hv; simp [isV] at hv
  · rename_i ho; rw [ho] at hv; simp [isV] at hv
  · rename_i ho; rw [ho] at hv; simp [isV] at hv
  · rename_i ho; rw [ho] at hv; simp [isV] at hv
  · rename_i ho; rw [ho] at hv; simp [isV] at hv
  · rename_i ho; rw [ho] at hv; simp [isV] at hv
  · have h1 := vOpR_all (Rs.all_mono (fun d hd => hd.2) (Rs.all_bind h))
    exact vOp_sound hr h1
end
end Go.Am
namespace Go.Am
open Go
mutual
theorem ren_id {ρ : Nat → Option Nat} : ∀ {d : D}, (∀ id ∈ d.ids, ρ id = some id) → d.ren ρ = d
  | .p _, _ => rfl
  | .agg cs, h => by simp only [D.ren]; rw [renL_id (cs := cs) h]
  | .tup cs, h => by simp only [D.ren]; rw [renL_id (cs := cs) h]
  | .cl _, _ => rfl
  | .cz _, _ => rfl
  | .ref id _ _ _, h => by simp only [D.ren]; rw [h id (by simp [D.ids])]
  | .ptr id _, h => by simp only [D.ren]; rw [h id (by simp [D.ids])]
  | .pe _, _ => rfl
  | .ea id _ _ _, h => by simp only [D.ren]; rw [h id (by simp [D.ids])]
  | .fn f cs, h => by simp only [D.ren]; rw [renL_id (cs := cs) h]
  | .np, _ => rfl
  | .mv id, h => by simp only [D.ren]; rw [h id (by simp [D.ids])]
  | .nref id _, h => by simp only [D.ren]; rw [h id (by simp [D.ids])]
  | .nea id _ _, h => by simp only [D.ren]; rw [h id (by simp [D.ids])]
  | .nr id _ _ _, h => by simp only [D.ren]; rw [h id (by simp [D.ids])]
  | .unk, _ => rfl
  | .bad, _ => rfl
theorem renL_id {ρ : Nat → Option Nat} : ∀ {cs : List D}, (∀ id ∈ idsL cs, ρ id = some id) → renL ρ cs = cs
  | [], _ => rfl
  | d :: r, h => by
    simp only [renL]
    rw [ren_id (d := d) (fun id hi => h id (by simp [idsL, hi])), renL_id (cs := r) (fun id hi => h id (by simp [idsL, hi]))]
end
def LeE (env : List (Nat × D)) : List (Nat × D) → Prop
  | [] => True
  | (t, d) :: r => get env t = some d ∧ LeE env r
def LeH (h : Hp) : Hp → Prop
  | [] => True
  | (id, o) :: r => get h id = some o ∧ LeH h r
def envIds : List (Nat × D) → List Nat
  | [] => []
  | (_, d) :: r => d.ids ++ envIds r
def hpIds : Hp → List Nat
  | [] => []
  | (_, o) :: r => o.ids ++ hpIds r
def KeepH (h1 : Hp) : Hp → Prop
  | [] => True
  | (id, o) :: r => (base ≤ id → get h1 id = some o) ∧ KeepH h1 r
def Le (st st1 : St) : Prop :=
  st1.n = st.n ∧ LeE st.env st1.env ∧ LeH st.hp st1.hp ∧ ((envIds st1.env ++ hpIds st1.hp).all fun id => (get st1.hp id).isSome) = true ∧ KeepH st1.hp st.hp
theorem LeE.spec {env : List (Nat × D)} : ∀ {e1 : List (Nat × D)}, LeE env e1 → ∀ t d, get e1 t = some d → get env t = some d
  | [], _, t, d, h => by simp [get] at h
  | (k, x) :: r, hl, t, d, h => by
    rw [get_cons] at h
    split at h
    · rename_i e; subst e; cases h; exact hl.1
    · exact hl.2.spec t d h
theorem LeH.spec {h : Hp} : ∀ {h1 : Hp}, LeH h h1 → ∀ id o, get h1 id = some o → get h id = some o
  | [], _, t, d, hg => by simp [get] at hg
  | (k, x) :: r, hl, t, d, hg => by
    rw [get_cons] at hg
    split at hg
    · rename_i e; subst e; cases hg; exact hl.1
    · exact hl.2.spec t d hg
theorem KeepH.spec {h1 : Hp} : ∀ {h : Hp}, KeepH h1 h → ∀ id o, base ≤ id → get h id = some o → get h1 id = some o
  | [], _, t, d, _, hg => by simp [get] at hg
  | (k, x) :: r, hl, t, d, hb, hg => by
    rw [get_cons] at hg
    split at hg
    · rename_i e; subst e; cases hg; exact hl.1 hb
    · exact hl.2.spec t d hb hg
theorem envIds_mem : ∀ {env : List (Nat × D)} {t : Nat} {d : D} {id : Nat}, get env t = some d → id ∈ d.ids → id ∈ envIds env
  | [], t, d, id, h, _ => by simp [get] at h
  | (k, x) :: r, t, d, id, h, hi => by
    rw [get_cons] at h
    simp only [envIds, List.mem_append]
    split at h
    · cases h; exact .inl hi
    · exact .inr (envIds_mem h hi)
theorem hpIds_mem : ∀ {h : Hp} {j : Nat} {o : AO} {id : Nat}, get h j = some o → id ∈ o.ids → id ∈ hpIds h
  | [], t, d, id, h, _ => by simp [get] at h
  | (k, x) :: r, t, d, id, h, hi => by
    rw [get_cons] at h
    simp only [hpIds, List.mem_append]
    split at h
    · cases h; exact .inl hi
    · exact .inr (hpIds_mem h hi)
theorem AO.ren_id {ρ : Nat → Option Nat} {o : AO} (h : ∀ id ∈ o.ids, ρ id = some id) : o.ren ρ = o := by
  cases o with
  | box cs ty => simp only [AO.ren]; rw [renL_id (cs := cs) h]
  | arx t sz es i c d => simp only [AO.ren]; rw [Go.Am.ren_id (d := d) h]
  | _ => rfl
theorem Wk.refl (st : St) : Wk st st := fun _ _ _ F M h => ⟨F, M, h⟩
theorem Wk.trans {a b c : St} (h : Wk a b) (h' : Wk b c) : Wk a c := fun x y w F M hr => let ⟨F1, M1, h1⟩ := h x y w F M hr; h' x y w F1 M1 h1
theorem Rel.forget {c : Ctx} {st st1 : St} {a : Act} {w : World} {F : Nat → Prop} {M : Nat → Mb} (hr : Rel c st a w F M) (h : Le st st1) : Rel c st1 a w F M := by
  have hc := hr.keep.s0b
  obtain ⟨hn, hE, hH, hids, hK⟩ := h
  have hpres : ∀ id, id ∈ envIds st1.env ++ hpIds st1.hp → ∃ o, get st1.hp id = some o := fun id hi => Option.isSome_iff_exists.1 (List.all_eq_true.1 hids id hi)
  let ρ : Nat → Option Nat := fun id => if (get st1.hp id).isSome then some id else none
  have hρ : ∀ id j, ρ id = some j → sg st.hp id ≠ none → M j = M id ∧ sg st1.hp j = sg st.hp id := by
    intro id j hj _
    simp only [ρ] at hj
    split at hj
    · rename_i hs
      simp only [Option.some.injEq] at hj
      subst hj
      obtain ⟨o, ho⟩ := Option.isSome_iff_exists.1 hs
      refine ⟨rfl, ?_⟩
      simp [sg, ho, hH.spec _ _ ho]
    · cases hj
  have hid : ∀ id, (∃ o, get st1.hp id = some o) → ρ id = some id := fun id ⟨o, ho⟩ => by simp [ρ, ho]
  constructor
  · intro t d ht
    have := (hr.env t d (hE.spec t d ht)).ren (M' := M) hρ
    rwa [ren_id (fun id hi => hid id (hpres id (List.mem_append_left _ (envIds_mem ht hi))))] at this
  · rw [hn]; exact hr.size
  · exact hr.defers
  · constructor
    · intro id o ho
      have := (hr.heap.obj id o (hH.spec id o ho)).ren (M' := M) hρ
      rwa [AO.ren_id (fun i hi => hid i (hpres i (List.mem_append_right _ (hpIds_mem ho hi))))] at this
    · intro id o id' o' b ho ho' hown hown'
      exact hr.heap.inj id o id' o' b (hH.spec _ _ ho) (hH.spec _ _ ho') hown hown'
  · have hk := hr.keep
    refine ⟨hk.os, hk.tape, hk.output, hk.size, hk.old, hk.F0, hk.Fn, hk.Fl, ?_, ?_, hk.s0b⟩
    · rintro b ⟨id, o, ho, hown⟩
      exact hk.own _ ⟨id, o, hH.spec _ _ ho, hown⟩
    · have hsk := hk.sgk
      have hget : ∀ id, c.s0 id ≠ none → sg st.hp id ≠ none → sg st1.hp id = sg st.hp id := by
        intro id h0 h1
        have hb := hc id h0
        cases ho : get st.hp id with
        | none => exact (h1 (by simp [sg, ho])).elim
        | some o => simp [sg, ho, hK.spec id o hb ho]
      refine ⟨fun id hi => ?_, fun id sz n hi => ?_, fun id sz n kk hi => ?_⟩
      · obtain ⟨h1, h2⟩ := hsk.1 id hi
        exact ⟨by rw [hget id (by rw [hi]; simp) (by rw [h1]; simp)]; exact h1, h2⟩
      · obtain ⟨n', h1, h2, h3⟩ := hsk.2.1 id sz n hi
        exact ⟨n', by rw [hget id (by rw [hi]; simp) (by rw [h1]; simp)]; exact h1, h2, h3⟩
      · obtain ⟨n', k', h1, h2⟩ := hsk.2.2 id sz n kk hi
        exact ⟨n', k', by rw [hget id (by rw [hi]; simp) (by rw [h1]; simp)]; exact h1, h2⟩
theorem Wk.forget {st st1 : St} (h : Le st st1) : Wk st st1 := fun _ _ _ F M hr => ⟨F, M, hr.forget h⟩
section
variable {P : Program} {st : St} {x : Code} {k : Kt}
theorem Wk.nil {t q sz : Nat} (e : TypeId) (ht : get st.env t = some (.cl [])) (hq : get st.hp q = none) (hs : 0 < sz) : Wk st ⟨(t, .ref q 0 0 0) :: st.env, (q, .arr e sz []) :: st.hp, st.n⟩ := by
  intro c a w F M hr
  obtain ⟨hr1, h1⟩ := hr.newEmpty (e := e) hq hs
  refine ⟨F, _, ⟨fun j d hj => ?_, hr1.size, hr1.defers, hr1.heap, hr1.keep⟩⟩
  rw [get_cons] at hj
  split at hj
  · rename_i e1
    subst e1
    cases hj
    have h2 := hr.env _ _ ht
    generalize a.tmps.getD t undef = v at h2
    cases h2 with | cl _ ad _ _ => exact h1 ad
  · exact hr1.env j d hj
theorem L_wk {st1 : St} {n : Nat} (hw : Wk st st1) (h : L P x k n st1) : L P x k n st := by
  cases n with
  | zero => exact h.elim
  | succ n => obtain ⟨st2, h1, h2⟩ := h; exact ⟨st2, hw.trans h1, h2⟩
theorem X_loop_inv {β : Type} (S : β → St) (I : β → Prop) (μ : β → Nat) (b0 : β) (h0 : I b0) (hw : Wk st (S b0))
    (hs : ∀ b n, I b → (∀ b' st', I b' → μ b' < μ b → Wk st' (S b') → L P x k n st') → X P x (.lp x n k) (S b)) : X P (.loop x) k st := by
  have key : ∀ n b, I b → μ b < n → L P x k n (S b) := by
    intro n
    induction n with
    | zero => intro b _ h; exact (Nat.not_lt_zero _ h).elim
    | succ n ih =>
      intro b hb hm
      exact ⟨S b, Wk.refl _, hs b n hb fun b' st' hb' hlt hwk => L_wk hwk (ih b' hb' (by omega))⟩
  exact X_loop _ (L_wk hw (key (μ b0 + 1) b0 h0 (Nat.lt_succ_self _)))
end
end Go.Am
namespace Go.Am
open Go
def Rt (h0 : List Nat) (hp : Hp) (d : D) (R : Hp → D → Prop) (T : List Nat) : Prop :=
  T.Nodup ∧ (T.all fun id => (get hp id).isSome) = true ∧ (h0.all fun id => base ≤ id && T.contains id) = true ∧ (T.filter (· < base)).length ≤ base ∧
  R (pick hp (retN T) T) (d.ren (retN T))
theorem retD_eq (h0 : List Nat) (hp : Hp) (d : D) (R : Hp → D → Prop) : retD h0 hp d R = Rt h0 hp d R (closeT hp (h0 ++ d.ids)) := nd rfl
def Ep (h0 : List Nat) (R : Hp → D → Prop) (r : Rs (D × Hp)) : Prop := r.all fun x => retD h0 x.2 x.1 R
theorem Ep_ret (h0 : List Nat) (R : Hp → D → Prop) (p : Prop) (d : D) (h : Hp) : Ep h0 R (.ret p (d, h)) = (p ∧ retD h0 h d R) := nd rfl
theorem end_pure {h0 : List Nat} {hp : Hp} {d : D} {R : Hp → D → Prop} (h : Ep h0 R (borDR hp d)) : endD h0 hp d R := endD_pure h
theorem end_own {h0 : List Nat} {hp : Hp} {d : D} {R : Hp → D → Prop} (h : retD h0 hp d R) : endD h0 hp d R := endD_own h
theorem endD_p (h0 : List Nat) (hp : Hp) (x : Pd) (R : Hp → D → Prop) : endD h0 hp (.p x) R = retD h0 hp (.p x) R := by
  unfold endD
  simp only [borD, bor, or_self]
attribute [go_sem] retD_eq Ep_ret endD_p D.ren renL
end Go.Am
end

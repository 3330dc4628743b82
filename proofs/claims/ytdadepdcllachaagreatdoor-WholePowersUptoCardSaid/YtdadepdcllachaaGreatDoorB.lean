/-
  copy, len, min, max, closures, strings gone through, calls. Operations on rows of rows. An operation of the pure machine, taken for what the run does: loads, stores, addresses. An operation of the pure machine, taken for what the run does: the rest. An operation of the pure machine, taken for what the run does: calls, and all of them together. Guards, and regions in the order of the text. Loops' heads: what is told there stays, all else is forgotten. Operations answer a value and a memory: what follows them makes no odds. An operation looks at its operands and at the memory alone. Which operations may change places. Operations that lay new blocks, and those that change places with them. Regions whose order is drawn. Code as a whole: what the pure machine answers, the run reaches. A function as a whole: from the pure machine's answer to what its calls do. What the arguments of a claim hold, as plain data. From what a law's calls do to what its row asks: it answers true, and its arguments read as they did. Tables of types and functions, row by row.
  No condition beyond those that each theorem names.
-/
import Derived.Test.YtdadepdcllachaaGreatDoorA
import Derived.ChangeArms
import Derived.DataReads
import Derived.OpenShut
import Derived.Carry
import Derived.WideShapes
import Derived.ProofKit

/-! PmOp7 -/
namespace Go.PM
open Go.RowKit
set_option linter.unusedVariables false
set_option linter.unusedSimpArgs false
variable {P : Program} {Γ : Env} {C : Ctx} {ρ : Nat → Value} {S : Nat → Prop} {st : St} {a : Act} {w : World}
variable {R : Type} {o : Oper} {k : PV → St → Option R} {y : R}

theorem kind_sl {t e : Nat} {row : TRow} (hΓ : EnvOK P C.G Γ) (hT : Γ.T t = some row) (hk : row.kind = .sl e) : P.underlying t = some (.slice e) := by
  have := (hΓ.T t row hT).kind
  rw [hk] at this
  exact this

theorem op_len_slice (hΓ : EnvOK P C.G Γ) (r : Rel P C ρ S st a w) {x : Operand} {t e n : Nat} {row : TRow} (ho : o.op = .call { callee := .builtin .len, args := #[x], argTypes := #[t] }) (hT : Γ.T t = some row) (hk : row.kind = .sl e)
    (hv : ∃ A c, a.eval x = .slice A n c) (h : k (.one (.int .i64 (n : Int))) st = some y) : OpGoal P C o a w k y := by
  obtain ⟨A, c, hv⟩ := hv
  have hk' := kind_sl hΓ hT hk
  have hrun : (Builtin.len_ #[t] o.type #[.slice A n c]).run P w = .ok (goInt n) w := by simp [Builtin.len_, run_underlying hk']
  refine op_value (v := goInt n) ?_ (by simp only [RepPV, RepLV]; rfl) r h
  rw [call_builtin ho]
  simp only [builtin, List.map_toArray, List.map_cons, List.map_nil, hv, Sem.run_bind, hrun, Result.andThen_ok, Sem.run_pure]

theorem op_len_str (hΓ : EnvOK P C.G Γ) (r : Rel P C ρ S st a w) {x : Operand} {t : Nat} {row : TRow} (ho : o.op = .call { callee := .builtin .len, args := #[x], argTypes := #[t] }) (hT : Γ.T t = some row) (hk : row.kind = .str) {s : ByteArray}
    (hx : operand Γ st x = .one (.str s)) (h : k (.one (.int .i64 (s.size : Int))) st = some y) : OpGoal P C o a w k y := by
  have hxv := operand_sound hΓ r x
  rw [hx] at hxv
  simp only [RepPV, RepLV] at hxv
  have hk' := (hΓ.T t row hT).kind
  rw [hk] at hk'
  have hrun : (Builtin.len_ #[t] o.type #[.string s]).run P w = .ok (goInt s.size) w := by simp [Builtin.len_, run_underlying hk']
  refine op_value (v := goInt s.size) ?_ (by simp only [RepPV, RepLV]; rfl) r h
  rw [call_builtin ho]
  simp only [builtin, List.map_toArray, List.map_cons, List.map_nil, hxv, Sem.run_bind, hrun, Result.andThen_ok, Sem.run_pure]

theorem op_min (hΓ : EnvOK P C.G Γ) (r : Rel P C ρ S st a w) {x z : Operand} {ts : Array TypeId} (ho : o.op = .call { callee := .builtin .min, args := #[x, z], argTypes := ts }) {c : IntKind} {m n : Int}
    (hx : operand Γ st x = .one (.int c m)) (hz : operand Γ st z = .one (.int c n)) (h : k (.one (.int c (min m n))) st = some y) : OpGoal P C o a w k y := by
  have hxv := operand_sound hΓ r x
  have hzv := operand_sound hΓ r z
  rw [hx] at hxv
  rw [hz] at hzv
  simp only [RepPV, RepLV] at hxv hzv
  refine op_value (v := .int c (min m n)) ?_ (by simp only [RepPV, RepLV]) r h
  rw [call_builtin ho]
  have : (Builtin.min_ ts o.type #[.int c m, .int c n]).run P w = .ok (.int c (min m n)) w := by
    simp [Builtin.min_, Builtin.min2]
    omega
  simp only [builtin, List.map_toArray, List.map_cons, List.map_nil, hxv, hzv, Sem.run_bind, this, Result.andThen_ok, Sem.run_pure]

theorem op_max (hΓ : EnvOK P C.G Γ) (r : Rel P C ρ S st a w) {x z : Operand} {ts : Array TypeId} (ho : o.op = .call { callee := .builtin .max, args := #[x, z], argTypes := ts }) {c : IntKind} {m n : Int}
    (hx : operand Γ st x = .one (.int c m)) (hz : operand Γ st z = .one (.int c n)) (h : k (.one (.int c (max m n))) st = some y) : OpGoal P C o a w k y := by
  have hxv := operand_sound hΓ r x
  have hzv := operand_sound hΓ r z
  rw [hx] at hxv
  rw [hz] at hzv
  simp only [RepPV, RepLV] at hxv hzv
  refine op_value (v := .int c (max m n)) ?_ (by simp only [RepPV, RepLV]) r h
  rw [call_builtin ho]
  have : (Builtin.max_ ts o.type #[.int c m, .int c n]).run P w = .ok (.int c (max m n)) w := by
    simp [Builtin.max_, Builtin.max2]
    omega
  simp only [builtin, List.map_toArray, List.map_cons, List.map_nil, hxv, hzv, Sem.run_bind, this, Result.andThen_ok, Sem.run_pure]

theorem op_copy (hΓ : EnvOK P C.G Γ) (r : Rel P C ρ S st a w) {s x : Operand} {t u e e2 b tid : Nat} {row row' er : TRow} (ho : o.op = .call { callee := .builtin .copy, args := #[s, x], argTypes := #[t, u] }) (hT : Γ.T t = some row) (hk : row.kind = .sl e) (hE : Γ.T e = some er)
    {xv : LV} (hx : operand Γ st x = .one xv) {ys : List (Den er.ty)} {fz : List Nat} {rest : List LV} (hto : toDenL st.m er.ty xv = some (ys, fz, rest)) {xs : List (Den er.ty)} (hs : operand Γ st s = .one (.own b)) (hm : st.m b = .row true tid er.ty xs)
    (h : k (.one (.int .i64 (min ys.length xs.length : Nat))) { st with m := upd st.m b (.row true tid er.ty (ys.take xs.length ++ xs.drop ys.length)) } = some y) : OpGoal P C o a w k y := by
  have hxv := operand_sound hΓ r x
  have hsv := operand_sound hΓ r s
  rw [hx] at hxv
  rw [hs] at hsv
  simp only [RepPV, RepLV, hm] at hxv hsv
  obtain ⟨A, c, hv, hc, hrest⟩ := listOf_sound r hto hxv
  have hk' := kind_sl hΓ hT hk
  have hb := r.mem b
  unfold RepBlk at hb; rw [hm] at hb
  obtain ⟨cells, hown, hEs, _⟩ := hb
  have hlive : (st.m b).live = true := by rw [hm]; rfl
  obtain ⟨news, hnl, hnA, hnE⟩ : ∃ news : List Value, news.length = ys.length * er.ty.size ∧ (ys.length = 0 ∨ ∃ ad, A = some ad ∧ Lies w ad news) ∧ Es (fun x es => RepD P er.ty w S x es) ys news := by
    rcases hrest with h0 | ⟨ad, cells, e1, e2, e3, _⟩
    · subst h0; exact ⟨[], by simp, .inl rfl, by simp [Es]⟩
    · exact ⟨cells, Es.length (n := er.ty.size) (fun x cs h => RepD.length h) e2, .inr ⟨ad, e1, e3⟩, e2⟩
  have hsz := (hΓ.T e er hE).sizeOf w
  have hlen2 : (ys.take xs.length ++ xs.drop ys.length).length = xs.length := by simp; omega
  -- what is copied
  have hnt : (news.take (xs.length * er.ty.size)).length = min ys.length xs.length * er.ty.size := by
    rw [List.length_take, hnl, Nat.mul_comm xs.length, Nat.mul_comm ys.length, Nat.mul_comm (min _ _), ← Nat.mul_min_mul_left, Nat.min_comm]
  have hEnew : Es (fun x es => RepD P er.ty w S x es) (ys.take xs.length ++ xs.drop ys.length) (news.take (xs.length * er.ty.size) ++ cells.drop (ys.length * er.ty.size)) :=
    Es.append (Es.take (n := er.ty.size) (fun x cs h => RepD.length h) _ hnE) (Es.drop (n := er.ty.size) (fun x cs h => RepD.length h) _ hEs)
  rcases hown.2 with ⟨e1, e2⟩ | ⟨g, cap, cur, e1, hB, hh, hc1, hc2, hc3, hc4⟩
  · have hx0 : xs = [] := List.eq_nil_of_length_eq_zero e2
    subst hx0
    have hsv' : a.eval s = .slice none 0 0 := hsv.2.trans e1
    have hrun : (Builtin.copy_ #[t, u] o.type #[.slice none 0 0, .slice A ys.length c]).run P w = .ok (goInt 0) w := by
      cases A <;> simp [Builtin.copy_, run_underlying hk', Builtin.lenOf, Builtin.firstCells, hsz, loadCells, loadCellsFrom]
    simp only [List.length_nil, Nat.min_zero, List.take_zero, List.drop_nil, List.append_nil] at h
    refine op_value (ρ' := ρ) (S' := S) (v := goInt 0) (w' := w) ?_ (by simp only [RepPV, RepLV]; rfl) ?_ h
    · rw [call_builtin ho]
      simp only [builtin, List.map_toArray, List.map_cons, List.map_nil, hv, hsv', Sem.run_bind, hrun, Result.andThen_ok, Sem.run_pure]
    · have : upd st.m b (.row true tid er.ty []) = st.m := by
        funext q
        by_cases eq : q = b
        · subst eq; rw [upd_same, hm]
        · exact upd_other _ _ eq
      rw [this]; exact r
  · have hsv' : a.eval s = .slice (some ⟨g, 0, none⟩) xs.length cap := hsv.2.trans e1
    have hcs : xs.length * er.ty.size ≤ cur.size := by rw [hc3]; exact Nat.mul_le_mul_right _ hc1
    have hlc : cells.length = xs.length * er.ty.size := hown.1
    have hmin : min ys.length xs.length * er.ty.size ≤ xs.length * er.ty.size := Nat.mul_le_mul_right _ (Nat.min_le_right _ _)
    have hst0 : (storeCells ⟨g, 0, none⟩ (news.take (xs.length * er.ty.size))).run P w = .ok () (w.setRow g (cur.toList.take 0 ++ news.take (xs.length * er.ty.size) ++ cur.toList.drop (0 + (news.take (xs.length * er.ty.size)).length)).toArray) :=
      run_storeCells_at P g 0 tid (news.take (xs.length * er.ty.size)) 0 cur w hh (by rw [hnt]; omega) (fun u hu => Es.ones hnE u (List.mem_of_mem_take hu))
    simp only [List.take_zero, List.nil_append, Nat.zero_add] at hst0
    have hload : (Builtin.firstCells er.ty.size (min ys.length xs.length) (.slice A ys.length c)).run P w = .ok (news.take (xs.length * er.ty.size)).toArray w := by
      rcases hnA with h0 | ⟨ad, rfl, hL⟩
      · have hn0 : news = [] := List.eq_nil_of_length_eq_zero (by rw [hnl, h0, Nat.zero_mul])
        subst hn0
        rw [h0]
        cases A <;> simp [Builtin.firstCells, loadCells, loadCellsFrom]
      · exact run_firstCells_some (P := P) w er.ty.size _ ad ys.length c _ hnt (lies_take hL _)
    have hrun : (Builtin.copy_ #[t, u] o.type #[.slice (some ⟨g, 0, none⟩) xs.length cap, .slice A ys.length c]).run P w = .ok (goInt (min ys.length xs.length : Nat)) (w.setRow g (news.take (xs.length * er.ty.size) ++ cur.toList.drop (news.take (xs.length * er.ty.size)).length).toArray) := by
      have hload' : (Builtin.firstCells er.ty.size (Nat.min ys.length xs.length) (.slice A ys.length c)).run P w = .ok (news.take (xs.length * er.ty.size)).toArray w := hload
      simp [Builtin.copy_, run_underlying hk', Builtin.lenOf, hsz, hload', hst0]
    have hvb : vb (ρ b) g := by rw [e1]
    have hst := stab_setRow r hlive hvb
    refine op_value (ρ' := ρ) (S' := S) (v := goInt (min ys.length xs.length : Nat)) (w' := w.setRow g (news.take (xs.length * er.ty.size) ++ cur.toList.drop (news.take (xs.length * er.ty.size)).length).toArray) ?_ (by simp only [RepPV, RepLV]; rfl) ?_ h
    · rw [call_builtin ho]
      simp only [builtin, List.map_toArray, List.map_cons, List.map_nil, hv, hsv', Sem.run_bind, hrun, Result.andThen_ok, Sem.run_pure]
    · refine r.write hlive hvb (setRow_size _ _ _) (setRow_os _ _ _) (setRow_tape _ _ _) (setRow_output _ _ _) (fun q hq => setRow_other w g q _ hq) ?_ ?_
      · unfold Ok1; simp only [hm, upd_same]; exact ⟨hlen2.symm, trivial, trivial⟩
      · unfold RepBlk
        rw [upd_same]
        refine ⟨_, ⟨?_, .inr ⟨g, cap, _, by rw [hlen2]; exact e1, hB, setRow_heap w g _ _ tid _ hh, by rw [hlen2]; exact hc1, hc2, ?_, ?_⟩⟩, Es.mono (fun x cs h => RepD.mono (hst _) h) hEnew, fun h => by cases h⟩
        · rw [Es.length (n := er.ty.size) (fun x cs h => RepD.length h) hEnew]
        · simp only [List.size_toArray, List.length_append, hnt, List.length_drop, Array.length_toList]; omega
        · rw [hlen2, hnt]
          have e4 : cells = cur.toList.take (xs.length * er.ty.size) := hc4.symm
          rw [List.take_append, hnt, List.take_of_length_le (by omega), e4, List.drop_take]
          by_cases hxy : xs.length ≤ ys.length
          · have e5 : min ys.length xs.length = xs.length := Nat.min_eq_right hxy
            have e6 : xs.length * er.ty.size ≤ ys.length * er.ty.size := Nat.mul_le_mul_right _ hxy
            rw [e5, Nat.sub_self, List.take_zero, Nat.sub_eq_zero_of_le e6, List.take_zero]
          · have e5 : min ys.length xs.length = ys.length := Nat.min_eq_left (by omega)
            rw [e5]

theorem op_makeFunc (hΓ : EnvOK P C.G Γ) (r : Rel P C ρ S st a w) {g : Nat} {c : Operand} (ho : o.op = .makeFunc (.func g) #[] #[c]) {p1 p2 e q : Ty} {F : Den (.pair p1 (.pair p2 (.pair (.ptr e) .unit))) → Option (Den q)}
    (hg : Γ.Φ g = some ⟨.pair p1 (.pair p2 (.pair (.ptr e) .unit)), q, [], F, none⟩) {x : LV} (hx : operand Γ st c = .one x) {z : Den e} {fz : List Nat} (hto : toDen st.m (.ptr e) [x] = some (z, fz, []))
    (h : k (.one (.fn (.pair p1 (.pair p2 .unit)) q (fun u => F (u.1, u.2.1, z, ())))) { st with m := still fz st.m } = some y) : OpGoal P C o a w k y := by
  have hxv := operand_sound hΓ r c
  rw [hx] at hxv
  simp only [RepPV] at hxv
  obtain ⟨l1, vs1, vs2, e1, l2, l3⟩ := toDen_sound r (.ptr e) [x] [a.eval c] z fz [] hto ⟨hxv, trivial⟩
  have : vs2 = [] := by
    cases vs2 with
    | nil => rfl
    | cons _ _ => exact l2.elim
  subst this
  rw [List.append_nil] at e1
  subst e1
  obtain ⟨S1, r1, hS1, hf1⟩ := r.stillS fz
  have hD := l3 S1 hS1 (fun b hb => hf1 b hb (by have := l1 b hb; unfold isRV at this; exact this))
  have hF := hΓ.Φ g _ hg
  refine op_value (v := .func (.func g) #[] #[a.eval c]) (by simp [execOp, ho, Instr.makeFunc]) ?_ r1 h
  show RepD P (.fn (.pair p1 (.pair p2 .unit)) q) w S1 _ _
  simp only [RepD]
  refine ⟨g, #[a.eval c], rfl, hF.body, fun w' S' hs hb u vs z' hu hz => ?_⟩
  have hu' : ∃ cs1 cs2, vs = [valOf p1.agg cs1, valOf p2.agg cs2] ∧ RepD P p1 w' S' u.1 cs1 ∧ RepD P p2 w' S' u.2.1 cs2 := by
    simp only [RepA] at hu
    obtain ⟨cs1, vs1, rfl, h1, cs2, vs2, rfl, h2, rfl⟩ := hu
    exact ⟨cs1, cs2, rfl, h1, h2⟩
  obtain ⟨cs1, cs2, rfl, h1, h2⟩ := hu'
  have hargs : RepA P (.pair p1 (.pair p2 (.pair (.ptr e) .unit))) w' S' (u.1, u.2.1, z, ()) [valOf p1.agg cs1, valOf p2.agg cs2, a.eval c] := by
    simp only [RepA]
    exact ⟨cs1, _, rfl, h1, cs2, _, rfl, h2, [a.eval c], _, rfl, by have := RepD.mono hs hD; simpa only [RepD] using this, rfl⟩
  have hcalls := hF.calls
  simp only at hcalls
  refine (hcalls w' S' hb (r1.gl.mono hs) _ _ z' hargs hz).mono ?_
  rintro e' w'' ⟨k1, vs', G, k2, k3, _⟩
  refine ⟨k1, vs', k2, ?_⟩
  have aux : ∀ (t : Ty) (S : Nat → Prop) (base : Nat) (y : Den t) (vs : List Value) (G : List Nat), RepR P t [] w'' S base y vs G → G = [] ∧ RepA P t w'' S y vs := by
    intro t
    induction t with
    | unit => intro S base y vs G h; simp only [RepR] at h; exact ⟨h.2, by simp only [RepA]; exact h.1⟩
    | pair t1 t2 _ ih =>
      intro S base y vs G h
      have : ∃ cs vs', vs = valOf t1.agg cs :: vs' ∧ RepD P t1 w'' S y.1 cs ∧ RepR P t2 [] w'' S base y.2 vs' G := by
        cases t1 <;> simp only [RepR, List.tail_nil] at h <;> exact h.2
      obtain ⟨cs, vs', e, k1, k2⟩ := this
      obtain ⟨l1, l2⟩ := ih _ _ _ _ _ k2
      exact ⟨l1, by simp only [RepA]; exact ⟨cs, vs', e, k1, l2⟩⟩
    | _ => intro S base y vs G h; simp only [RepR] at h
  exact RepA.mono (fun b hb => ⟨hb.imp (fun h => h) (fun h => ⟨h.1, h.2.1⟩), rfl⟩) (aux _ _ _ _ _ _ k3).2

theorem op_range (hΓ : EnvOK P C.G Γ) (r : Rel P C ρ S st a w) {t id : Nat} {x : Operand} {row : TRow} (ho : o.op = .range t x) (hT : Γ.T t = some row) (hk : row.kind = .str) {s : ByteArray} (hx : operand Γ st x = .one (.str s)) (hf : st.m id = .free)
    (h : k (.one (.iter id)) { st with m := upd st.m id (.iter s 0) } = some y) : OpGoal P C o a w k y := by
  have hxv := operand_sound hΓ r x
  rw [hx] at hxv
  simp only [RepPV, RepLV] at hxv
  have hk' := (hΓ.T t row hT).kind
  rw [hk] at hk'
  have hb : Below w.heap.size w (w.alloc (.stringIter s 0)) := (Below.refl _ _).alloc (Nat.le_refl _) _
  have r' := r.new (id := id) (blk := .iter s 0) (v := .pointer (some ⟨w.heap.size, 0, none⟩)) hf hb (fun g hg => by cases hg; exact Nat.le_refl _) (by
    unfold RepBlk
    rw [upd_same, upd_same]
    exact ⟨_, rfl, Nat.zero_le _, heap_alloc_new w _⟩)
  refine op_value (v := .pointer (some ⟨w.heap.size, 0, none⟩)) (by simp [execOp, ho, hxv, Instr.range, run_underlying hk']) ?_ r' h
  simp only [RepPV, RepLV, upd_same]
  exact ⟨rfl, trivial⟩

theorem op_next (hΓ : EnvOK P C.G Γ) (r : Rel P C ρ S st a w) {x : Operand} (ho : o.op = .next x true) {b pos : Nat} {s : ByteArray} (hx : operand Γ st x = .one (.iter b)) (hm : st.m b = .iter s pos)
    (h : cond (decide (pos < s.size)) (k (.tup [(false, [.bool true]), (false, [.int .i64 pos]), (false, [.int .i32 (Utf8.decode s pos).1])]) { st with m := upd st.m b (.iter s (pos + (Utf8.decode s pos).2)) }) (k (.tup [(false, [.bool false])]) st) = some y) : OpGoal P C o a w k y := by
  have hxv := operand_sound hΓ r x
  rw [hx] at hxv
  simp only [RepPV, RepLV, hm] at hxv
  have hb := r.mem b
  unfold RepBlk at hb; rw [hm] at hb
  obtain ⟨g, hρ, hB, hh⟩ := hb
  have hv : a.eval x = .pointer (some ⟨g, 0, none⟩) := hxv.2.trans hρ
  have hget : (getObj g).run P w = .ok (.stringIter s pos) w := by simp [getObj, Sem.run, hh]
  rcases cond_some h with ⟨hlt, h⟩ | ⟨hlt, h⟩
  · have hset : (setObj g (.stringIter s (pos + (Utf8.decode s pos).2))).run P w = .ok () { w with heap := w.heap.setIfInBounds g (.stringIter s (pos + (Utf8.decode s pos).2)) } := by simp [setObj, Sem.run, hh]
    have hlive : (st.m b).live = true := by rw [hm]; rfl
    have hlt' := (Array.getElem?_eq_some_iff.1 hh).1
    have r' := r.write (b := b) (blk := .iter s (pos + (Utf8.decode s pos).2)) (w' := { w with heap := w.heap.setIfInBounds g (.stringIter s (pos + (Utf8.decode s pos).2)) }) (g := g) hlive (by rw [hρ]) (by simp) rfl rfl rfl
      (fun q hq => by simp [Array.getElem?_setIfInBounds, Ne.symm hq]) (by unfold Ok1; simp only [hm, upd_same]) (by
        unfold RepBlk
        rw [upd_same]
        exact ⟨g, hρ, hB, by simp [Array.getElem?_setIfInBounds, hlt']⟩)
    refine op_value (v := .tuple #[.bool true, goInt pos, .int .i32 (Utf8.decode s pos).1]) ?_ ?_ r' h
    · simp only [execOp, ho, hv, Instr.next, Sem.run_bind, hget, Result.andThen_ok, if_pos hlt, hset, Sem.run_pure]
    · exact ⟨[.bool true, goInt pos, .int .i32 (Utf8.decode s pos).1], rfl, ⟨[.bool true], ⟨rfl, trivial⟩, rfl, fun _ => rfl⟩, ⟨[goInt pos], ⟨rfl, trivial⟩, rfl, fun _ => rfl⟩, ⟨[.int .i32 (Utf8.decode s pos).1], ⟨rfl, trivial⟩, rfl, fun _ => rfl⟩, trivial⟩
  · refine op_value (v := .tuple #[.bool false]) ?_ ?_ r h
    · simp only [execOp, ho, hv, Instr.next, Sem.run_bind, hget, Result.andThen_ok, if_neg hlt, Sem.run_pure]
    · exact ⟨[.bool false], rfl, ⟨[.bool false], ⟨rfl, trivial⟩, rfl, fun _ => rfl⟩, trivial⟩
end Go.PM

/-! PmOpD -/
namespace Go.PM
open Go.RowKit
set_option linter.unusedVariables false
set_option linter.unusedSimpArgs false
variable {P : Program} {Γ : Env} {C : Ctx} {ρ : Nat → Value} {S : Nat → Prop} {st : St} {a : Act} {w : World}
variable {R : Type} {o : Oper} {k : PV → St → Option R} {y : R}

/-- Some elements of a row are written. -/
theorem ownsRow_part {base t size n i g m c : Nat} {cells new : List Value} (h : w.ownsRow base t size (.slice (some ⟨g, 0, none⟩) m c) n cells) (hi : i * size + size ≤ n * size) (hl : new.length = size) :
    ∃ cur : Array Value, w.heap[g]? = some (.cells cur t (0, 0)) ∧ i * size + size ≤ cur.size ∧
      (w.setRow g (cur.toList.take (i * size) ++ new ++ cur.toList.drop (i * size + size)).toArray).ownsRow base t size (.slice (some ⟨g, 0, none⟩) m c) n (cells.take (i * size) ++ new ++ cells.drop (i * size + size)) := by
  have h0 := h.1
  rcases h.2 with ⟨e1, _⟩ | ⟨g', cap, cur, e1, hB, hh, hc1, hc2, hc3, hc4⟩
  · cases e1
  · cases e1
    have hcs : n * size ≤ cur.size := by rw [hc3]; exact Nat.mul_le_mul_right _ hc1
    refine ⟨cur, hh, by omega, ?_, .inr ⟨g, _, _, rfl, hB, setRow_heap w g _ _ t _ hh, hc1, hc2, ?_, ?_⟩⟩
    · simp only [List.length_append, List.length_take, List.length_drop, hl, h0]; omega
    · simp only [List.size_toArray, List.length_append, List.length_take, List.length_drop, hl, Array.length_toList]; omega
    · have hcl : (cur.toList.take (i * size) ++ new).length = i * size + size := by
        rw [List.length_append, List.length_take, hl, Array.length_toList]; omega
      rw [← hc4, List.take_append, hcl, List.take_of_length_le (by omega), List.take_take, Nat.min_eq_left (by omega), List.drop_take]

theorem deep_hd {b t1 t2 u : Nat} {l : Bool} {e : Ty} {xs : List (List (Den e))} {oo : Option Nat} (r : Rel P C ρ S st a w) (hm : st.m b = .deep l t1 t2 e xs oo u) :
    ∃ v hs, ρ b = .tuple (v :: hs).toArray ∧ hdV (ρ b) = v ∧ DeepAt P w S 0 t1 t2 e xs oo v hs := by
  have hb := r.mem b
  unfold RepBlk at hb; rw [hm] at hb
  obtain ⟨v, hs, h1, h2, _⟩ := hb
  exact ⟨v, hs, h1, by rw [h1]; rfl, h2⟩

theorem op_load_deep (hΓ : EnvOK P C.G Γ) (r : Rel P C ρ S st a w) {t : TypeId} {x : Operand} {row : TRow} (ho : o.op = .load t x) (hT : Γ.T t = some row) {b i t1 t2 u : Nat} (hx : operand Γ st x = .one (.rptr b i))
    {l : Bool} {e : Ty} {xs : List (List (Den e))} (hm : st.m b = .deep l t1 t2 e xs none u) (hsl : isSl row.ty = true) (h : k (.one (.inn b i u)) st = some y) : OpGoal P C o a w k y := by
  have hxv := operand_sound hΓ r x
  rw [hx] at hxv
  simp only [RepPV, RepLV, hm] at hxv
  obtain ⟨_, hi, g, n, c, hρ, hv⟩ := hxv
  obtain ⟨s1, s2⟩ := isSl_size hsl
  obtain ⟨v, hs, h1, h2, hd⟩ := deep_hd r hm
  rw [h2] at hρ
  subst hρ
  have hil : i < hs.length := by rw [hd.len]; exact hi
  have hu : hs[i]? = some hs[i] := List.getElem?_eq_getElem hil
  obtain ⟨cells, c1, c2⟩ := hd.row
  have hc := c2 i _ (by simp) hu
  obtain ⟨m, cs, k1, _⟩ := hd.inn i _ hu
  have hone : (hs[i]).oneCell' = true := by obtain ⟨A, n, c, e1⟩ := ownsRow_slice k1; rw [e1]; rfl
  have hL : Lies w ⟨g, i, none⟩ [hs[i]] := by
    rcases c1.2 with ⟨e1, _⟩ | ⟨g', cap, cur, e1, _, hh, _, _, _, h6⟩
    · cases e1
    · cases e1
      refine lies_row hh _ fun p z hz => ?_
      rcases p with _ | p
      · have hz : hs[i] = z := by simpa using hz
        subst hz
        rw [Nat.mul_one] at h6
        have : (cur.toList.take xs.length)[i]? = some hs[i] := by rw [h6]; exact hc
        rw [List.getElem?_take_of_lt hi] at this
        simpa using this
      · simp at hz
  refine op_load hΓ r ho hT hv (us := [hs[i]]) (cs := [.inn b i u]) (by rw [s1]; rfl) hL ⟨?_, trivial⟩ ?_
  · simp only [RepLV, hm]
    exact ⟨hone, Nat.le_refl _, fun _ _ => ⟨hi, by rw [h1]; exact hu⟩⟩
  · rw [s2]; exact h

theorem op_index_deep (hΓ : EnvOK P C.G Γ) (r : Rel P C ρ S st a w) {t e : Nat} {x i : Operand} {row er : TRow} (ho : o.op = .indexAddr t x i) (hT : Γ.T t = some row) (hk : row.kind = .sl e) (hE : Γ.T e = some er) {q : IntKind} {n : Int} (hi : operand Γ st i = .one (.int q n))
    {b t1 t2 u : Nat} {l : Bool} {e' : Ty} {xs : List (List (Den e'))} {oo : Option Nat} (hx : operand Γ st x = .one (.own b)) (hm : st.m b = .deep l t1 t2 e' xs oo u) (hsl : isSl er.ty = true) (h0 : 0 ≤ n) (h1 : n < xs.length) (h : k (.one (.rptr b n.toNat)) st = some y) : OpGoal P C o a w k y := by
  have hxv := operand_sound hΓ r x
  have hiv := operand_sound hΓ r i
  rw [hx] at hxv
  rw [hi] at hiv
  simp only [RepPV, RepLV, hm] at hxv hiv
  have hk' := (hΓ.T t row hT).kind
  rw [hk] at hk'
  obtain ⟨s1, s2⟩ := isSl_size hsl
  obtain ⟨v, hs, k1, k2, hd⟩ := deep_hd r hm
  obtain ⟨cells, c1, c2⟩ := hd.row
  rcases c1.2 with ⟨e1, e2⟩ | ⟨g, cap, cur, e1, _, _, hc, _⟩
  · omega
  · have hv : a.eval x = .slice (some ⟨g, 0, none⟩) xs.length cap := by rw [hxv.2, k2, e1]
    have hrun := run_indexAt (P := P) (ad := ⟨g, 0, none⟩) (cap := cap) (q := q) hk' (hΓ.T e er hE) h0 h1 w
    refine op_value (v := .pointer (some ⟨g, n.toNat, none⟩)) (by simp [execOp, ho, hv, hiv, hrun, Addr.add_lit, s1]) ?_ r h
    simp only [RepPV, RepLV, hm]
    exact ⟨rfl, by omega, g, _, _, by rw [k2, e1], rfl⟩

theorem op_index_inn (hΓ : EnvOK P C.G Γ) (r : Rel P C ρ S st a w) {t e : Nat} {x i : Operand} {row er : TRow} (ho : o.op = .indexAddr t x i) (hT : Γ.T t = some row) (hk : row.kind = .sl e) (hE : Γ.T e = some er) {q : IntKind} {n : Int} (hi : operand Γ st i = .one (.int q n))
    {b j t1 t2 u : Nat} {l : Bool} {xs : List (List (Den er.ty))} (hx : operand Γ st x = .one (.inn b j u)) (hm : st.m b = .deep l t1 t2 er.ty xs none u) (h0 : 0 ≤ n) (h1 : n < (xs.getD j []).length) (h : k (.one (.iptr b j n.toNat u)) st = some y) : OpGoal P C o a w k y := by
  have hxv := operand_sound hΓ r x
  have hiv := operand_sound hΓ r i
  rw [hx] at hxv
  rw [hi] at hiv
  simp only [RepPV, RepLV, hm] at hxv hiv
  have hk' := (hΓ.T t row hT).kind
  rw [hk] at hk'
  obtain ⟨_, _, hxv⟩ := hxv
  obtain ⟨hj, hin⟩ := hxv trivial trivial
  obtain ⟨v, hs, k1, k2, hd⟩ := deep_hd r hm
  rw [k1] at hin
  have hin' : hs[j]? = some (a.eval x) := hin
  obtain ⟨m, cs, c1, c2⟩ := hd.inn j _ hin'
  obtain ⟨x0, x1, x2, x3⟩ := c2 (by simp)
  have hgd : xs.getD j [] = x0 := by rw [List.getD_eq_getElem?_getD, x1]; rfl
  subst x2
  rcases c1.2 with ⟨e1, e2⟩ | ⟨g, cap, cur, e1, _, _, hc, _⟩
  · rw [hgd] at h1; omega
  · rw [hgd] at h1
    have hrun := run_indexAt (P := P) (ad := ⟨g, 0, none⟩) (cap := cap) (q := q) hk' (hΓ.T e er hE) h0 h1 w
    refine op_value (v := .pointer (some ⟨g, n.toNat * er.ty.size, none⟩)) (by simp [execOp, ho, e1, hiv, hrun, Addr.add_lit]) ?_ r h
    simp only [RepPV, RepLV, hm]
    exact ⟨rfl, Nat.le_refl _, fun _ _ => ⟨hj, by rw [hgd]; omega, g, _, _, by rw [k1, ← e1]; exact hin', rfl⟩⟩

/-- A row of the machine's own is laid into a row of rows. -/
theorem op_store_deep (hΓ : EnvOK P C.G Γ) (r : Rel P C ρ S st a w) {t : TypeId} {x z : Operand} {row : TRow} (ho : o.op = .store t x z) (hT : Γ.T t = some row) {b i j t1 t2 u : Nat} (hx : operand Γ st x = .one (.rptr b i))
    {g : Bool} (hz : (operand Γ st z).cells = some (g, [.own j])) {e : Ty} {xs : List (List (Den e))} {oo : Option Nat} (hm : st.m b = .deep true t1 t2 e xs oo u) {zs : List (Den e)} (hmj : st.m j = .row true t2 e zs)
    (hb0 : 0 < b) (hsl : isSl row.ty = true) (hoo : ∀ p, oo = some p → i = p)
    (h : k .undef { st with m := upd (upd st.m j .dead) b (.deep true t1 t2 e (xs.set i zs) none (u + 1)) } = some y) : OpGoal P C o a w k y := by
  have hxv := operand_sound hΓ r x
  rw [hx] at hxv
  simp only [RepPV, RepLV, hm] at hxv
  obtain ⟨_, hi, g1, n, k1, hρ, hv⟩ := hxv
  obtain ⟨hds, _⟩ := (cells_sound (operand_sound hΓ r z) hz).cells
  obtain ⟨v, evs, hvr⟩ := hds.one
  simp only [RepLV, hmj] at hvr
  obtain ⟨hone, hvj⟩ := hvr
  obtain ⟨s1, s2⟩ := isSl_size hsl
  obtain ⟨v0, hs, h1, h2, hd⟩ := deep_hd r hm
  rw [h2] at hρ
  subst hρ
  have hsz : (a.eval z).cells.size = 1 := by rw [← Array.length_toList, evs]; rfl
  have hone' : ∀ u ∈ (a.eval z).cells.toList, u.oneCell' = true := by rw [evs]; intro u hu; rw [List.mem_singleton] at hu; rw [hu]; exact hone
  obtain ⟨cells, c1, c2⟩ := hd.row
  obtain ⟨cur, hh, hfit, hnew⟩ := ownsRow_part (new := [v]) (i := i) c1 (by omega) rfl
  have hrun := run_store_lies (P := P) (hΓ.T t row hT) (g := g1) (o := i) (v := a.eval z) (by rw [hsz, s1]) hh (by rw [hsz]; omega) hone'
  rw [hsz, evs] at hrun
  refine op_skip (S' := S) (w' := w.setRow g1 _) (by simp only [execOp, ho, hv, Instr.storeAt, Instr.sureAddr, pure_bind, Sem.run_bind, hrun, Result.andThen_ok, Sem.run_pure]; rfl) (r.lay hb0 hm h1 hd hmj hi hoo rfl (setRow_size _ _ _) (setRow_os _ _ _) (setRow_tape _ _ _) (setRow_output _ _ _) (fun q hq => setRow_other w g1 q _ hq) ?_) h
  intro cells' c1'
  obtain ⟨cur', hh', _, hnew'⟩ := ownsRow_part (new := [v]) (i := i) c1' (by omega) rfl
  rw [hh] at hh'; cases hh'
  simp only [Nat.mul_one] at hnew'
  have hcl : i < cells'.length := by rw [c1'.1]; omega
  have e1 : cells'.take i ++ [v] ++ cells'.drop (i + 1) = cells'.set i v := by
    rw [List.set_eq_take_append_cons_drop, if_pos hcl]; simp
  rw [e1] at hnew'
  rw [← hvj]
  exact hnew'

/-- An element of a row within a row of rows is written. -/
theorem op_store_inn (hΓ : EnvOK P C.G Γ) (r : Rel P C ρ S st a w) {t : TypeId} {x z : Operand} {row : TRow} (ho : o.op = .store t x z) (hT : Γ.T t = some row) {b i n t1 t2 u : Nat} (hx : operand Γ st x = .one (.iptr b i n u))
    {g : Bool} {ds : List LV} (hz : (operand Γ st z).cells = some (g, ds)) {xs : List (List (Den row.ty))} (hm : st.m b = .deep true t1 t2 row.ty xs none u) {q : Den row.ty} {fz : List Nat}
    (hd : toDen st.m row.ty ds = some (q, fz, [])) (hfz : b ∉ fz)
    (h : k .undef { st with m := upd (still fz st.m) b (.deep true t1 t2 row.ty (xs.set i ((xs.getD i []).set n q)) none u) } = some y) : OpGoal P C o a w k y := by
  have hxv := operand_sound hΓ r x
  rw [hx] at hxv
  simp only [RepPV, RepLV, hm] at hxv
  obtain ⟨_, _, hxv⟩ := hxv
  obtain ⟨hi, hn, g1, n', k1, hin, hv⟩ := hxv trivial trivial
  obtain ⟨hds, _⟩ := (cells_sound (operand_sound hΓ r z) hz).cells
  obtain ⟨hrv, vs1, vs2, evs, hv2, hD⟩ := toDen_sound r _ _ _ _ _ _ hd hds
  have : vs2 = [] := by
    cases vs2 with
    | nil => rfl
    | cons _ _ => exact hv2.elim
  subst this
  rw [List.append_nil] at evs
  obtain ⟨S1, r1, hS1, hf1⟩ := r.stillS fz
  have hu := hD S1 hS1 (fun b hb => hf1 b hb (by have := hrv b hb; unfold isRV at this; exact this))
  rw [← evs] at hu
  have hm1 : still fz st.m b = .deep true t1 t2 row.ty xs none u := by rw [still_at, if_neg hfz, hm]
  obtain ⟨v0, hs, h1, h2, hdp⟩ := deep_hd r1 hm1
  rw [h1] at hin
  have hin : hs[i]? = some (.slice (some ⟨g1, 0, none⟩) n' k1) := hin
  obtain ⟨m, cells, c1, c2⟩ := hdp.inn i _ hin
  obtain ⟨x0, x1, x2, x3⟩ := c2 (by simp)
  have hgd : xs.getD i [] = x0 := by rw [List.getD_eq_getElem?_getD, x1]; rfl
  rw [hgd] at hn
  subst x2
  have hln := RepD.length hu
  have hsz : (a.eval z).cells.size = row.ty.size := by rw [← Array.length_toList]; exact hln
  have hfit0 : n * row.ty.size + row.ty.size ≤ x0.length * row.ty.size := by
    have := Nat.mul_le_mul_right row.ty.size (show n + 1 ≤ x0.length from hn)
    rwa [Nat.add_mul, Nat.one_mul] at this
  obtain ⟨cur, hh, hfit, hnew⟩ := ownsRow_part (new := (a.eval z).cells.toList) (i := n) c1 hfit0 hln
  have hrun := run_store_lies (P := P) (hΓ.T t row hT) (g := g1) (o := n * row.ty.size) (v := a.eval z) hsz hh (by rw [hsz]; omega) (RepD.one hu)
  rw [hsz] at hrun
  have hlive : (still fz st.m b).live = true := by rw [hm1]; rfl
  have hvb : vb (ρ b) g1 := by rw [h1]; exact vb_tuple_inn hin rfl
  refine op_skip (ρ' := ρ) (S' := S1) (w' := w.setRow g1 _) (by simp only [execOp, ho, hv, Instr.storeAt, Instr.sureAddr, pure_bind, Sem.run_bind, hrun, Result.andThen_ok, Sem.run_pure]; rfl) ?_ h
  have hst := stab_setRow r1 hlive hvb
  refine r1.write hlive hvb (setRow_size _ _ _) (setRow_os _ _ _) (setRow_tape _ _ _) (setRow_output _ _ _) (fun q hq => setRow_other w g1 q _ hq) ?_ ?_
  · unfold Ok1; simp only [hm1, upd_same]
    refine ⟨trivial, by rw [List.length_set], trivial, Nat.le_refl _, fun _ _ => ⟨trivial, fun _ => trivial, fun p => ?_⟩⟩
    by_cases ep : i = p
    · subst ep
      rw [List.getD_eq_getElem?_getD, List.getElem?_set_self hi, hgd]; simp
    · rw [List.getD_eq_getElem?_getD, List.getElem?_set_ne ep, ← List.getD_eq_getElem?_getD]
  · unfold RepBlk
    rw [upd_same]
    obtain ⟨rc, r2, r3⟩ := hdp.row
    have hrow : (w.setRow g1 (cur.toList.take (n * row.ty.size) ++ (a.eval z).cells.toList ++ cur.toList.drop (n * row.ty.size + row.ty.size)).toArray).ownsRow 0 t1 1 v0 xs.length rc := by
      refine ownsRow_of_block r2 (fun k hk => setRow_other w g1 k _ (fun e => ?_))
      subst e
      have := nd_pair (l := v0 :: hs) hdp.nd (p := 0) (q := i + 1) rfl hin (vb_slice (ownsRow_slice r2) hk) rfl
      omega
    refine ⟨v0, hs, h1, ⟨by rw [List.length_set]; exact hdp.len, ⟨rc, by rw [List.length_set]; exact hrow, r3⟩, fun p h' hp => ?_, hdp.nd⟩, fun h => by cases h⟩
    by_cases ep : i = p
    · subst ep
      rw [hin] at hp; cases hp
      refine ⟨x0.length, _, hnew, fun _ => ⟨x0.set n q, (List.getElem?_set_self hi).trans (by rw [hgd]), by rw [List.length_set], ?_⟩⟩
      exact Es.mono (fun x cs h => RepD.mono (hst _) h) (Es.set (n := row.ty.size) (fun x cs h => RepD.length h) n x3 hn hu)
    · obtain ⟨m', cs, d1, d2⟩ := hdp.inn p h' hp
      refine ⟨m', cs, ownsRow_of_block d1 (fun k hk => setRow_other w g1 k _ (fun e => ?_)), fun _ => ?_⟩
      · subst e
        have := nd_pair (l := v0 :: hs) hdp.nd (p := i + 1) (q := p + 1) hin hp rfl (vb_slice (ownsRow_slice d1) hk)
        omega
      · obtain ⟨x0', y1, y2, y3⟩ := d2 (by simp)
        exact ⟨x0', by rw [List.getElem?_set_ne ep]; exact y1, y2, Es.mono (fun x cs h => RepD.mono (hst _) h) y3⟩

theorem madeRow_cases (Γ : Env) (e : Nat) (er : TRow) (n : Nat) : madeRow Γ e er n = .row true e er.ty (List.replicate n (zeroD er.ty)) ∨ ∃ t e2, er.ty = .sl t ∧ madeRow Γ e er n = .deep true e e2 t (List.replicate n []) none 0 := by
  obtain ⟨ty, kind, bytes⟩ := er
  unfold madeRow
  cases Γ.deep with
  | false => exact .inl rfl
  | true =>
    cases ty <;> cases kind <;> first | exact .inl rfl | exact .inr ⟨_, _, rfl, rfl⟩

theorem op_make_deep (hΓ : EnvOK P C.G Γ) (r : Rel P C ρ S st a w) {t e id e2 : Nat} {lo co : Operand} {row er : TRow} (ho : o.op = .makeSlice t lo co) (hsame : a.eval co = a.eval lo) (hT : Γ.T t = some row) (hk : row.kind = .sl e) (hE : Γ.T e = some er) {n : Int}
    (hn : operand Γ st lo = .one (.int .i64 n)) (hf : st.m id = .free) {u : Ty} (hty : er.ty = .sl u) (h0 : 0 ≤ n) (hb : n * er.bytes ≤ 140737488351232) (hb1 : n ≤ 140737488351232)
    (h : k (.one (.own id)) { st with m := upd st.m id (.deep true e e2 u (List.replicate n.toNat []) none 0) } = some y) : OpGoal P C o a w k y := by
  have hnv := operand_sound hΓ r lo
  rw [hn] at hnv
  simp only [RepPV, RepLV] at hnv
  obtain ⟨i, z, hi, hz, hs, hby, hc⟩ := (hΓ.T e er hE).get
  have hk' := (hΓ.T t row hT).kind
  rw [hk] at hk'
  obtain ⟨q, rfl⟩ := Int.eq_ofNat_of_zero_le h0
  have hlen : (zeroV er.ty).length = er.ty.size := by rw [hty]; rfl
  obtain ⟨w', hrun, hown, hg⟩ := run_make_full (P := P) w w.heap.size t e i z er.ty.size hk' hi hz hs .i64 .i64 q (by rw [hby, Nat.mul_comm]; omega) (by simp only [maxLen]; omega) (Nat.le_refl _)
  have hbel : Below w.heap.size w w' := ⟨hg.os, hg.tape, hg.output, hg.size, fun b hb => hg.block b hb (by simp)⟩
  rw [← hlen, madeCells_flatten z _ hc q, hlen, hty] at hown
  have hcells : (List.replicate q (zeroV (.sl u))).flatten = List.replicate q (.slice none 0 0) := by
    clear hown hrun h h0 hb hb1 hn hnv
    induction q with
    | zero => rfl
    | succ q ih => rw [List.replicate_succ, List.flatten_cons, ih]; rfl
  rw [hcells] at hown
  have hin : ∀ (p : Nat) (x : Value), (List.replicate q (Value.slice none 0 0))[p]? = some x → p < q ∧ x = .slice none 0 0 := by
    intro p x hp
    obtain ⟨h1, h2⟩ := List.getElem?_eq_some_iff.1 hp
    rw [List.length_replicate] at h1
    rw [List.getElem_replicate] at h2
    exact ⟨h1, h2.symm⟩
  have hnd : (List.replicate q (Value.slice none 0 0)).filterMap vblk = [] := by
    rw [List.filterMap_eq_nil_iff]
    intro x hx
    rw [(List.mem_replicate.1 hx).2]; rfl
  have hvb : ∀ g, vb (.tuple (.slice (some ⟨w.heap.size, 0, none⟩) q q :: List.replicate q (.slice none 0 0)).toArray) g → w.heap.size ≤ g := by
    intro g hg
    rcases vb_tuple hg with h | ⟨p, x, hp, h⟩
    · cases h; exact Nat.le_refl _
    · rw [(hin p x hp).2] at h; cases h
  have r' := r.new (id := id) (blk := .deep true e e2 u (List.replicate q []) none 0) (v := .tuple (.slice (some ⟨w.heap.size, 0, none⟩) q q :: List.replicate q (.slice none 0 0)).toArray) hf hbel hvb (by
    unfold RepBlk
    rw [upd_same, upd_same]
    refine ⟨_, _, rfl, ⟨by simp, ⟨_, by rw [List.length_replicate]; exact ownsRow_base hown (Nat.zero_le _), fun p x _ hp => hp⟩, fun p x hp => ?_, ?_⟩, fun h => by cases h⟩
    · obtain ⟨h1, rfl⟩ := hin p x hp
      exact ⟨0, [], World.ownsRow_nil _ _ _ _, fun _ => ⟨[], by rw [List.getElem?_replicate, if_pos h1], rfl, by simp [Es]⟩⟩
    · rw [List.filterMap_cons]
      simp only [vblk, hnd]
      exact List.nodup_cons.2 ⟨List.not_mem_nil, List.nodup_nil⟩)
  refine op_value (v := .slice (some ⟨w.heap.size, 0, none⟩) q q) (by simp [execOp, ho, hsame, hnv, hrun]) ?_ r' h
  simp only [RepPV, RepLV, upd_same]
  exact ⟨rfl, rfl⟩
end Go.PM

/-! PmOp8 -/
namespace Go.PM
open Go.RowKit
set_option linter.unusedVariables false
set_option linter.unusedSimpArgs false
variable {P : Program} {Γ : Env} {C : Ctx} {ρ : Nat → Value} {S : Nat → Prop} {st : St} {a : Act} {w : World}
variable {R : Type} {o : Oper} {k : PV → St → Option R} {y : R} {id : Nat}

theorem bif_none {R : Type} {b : Bool} {x : Option R} {y : R} (h : cond b x none = some y) : b = true ∧ x = some y := by
  cases b with
  | true => exact ⟨rfl, h⟩
  | false => cases h
theorem bif_none' {R : Type} {b : Bool} {x : Option R} {y : R} (h : cond b none x = some y) : b = false ∧ x = some y := by
  cases b with
  | true => cases h
  | false => exact ⟨rfl, h⟩

theorem castList {e e' : Ty} {xs : List (Den e)} {ys : List (Den e')} (h : castTy (fun t => List (Den t)) e e' xs = some ys) : ∃ he : e = e', he ▸ xs = ys := castTy_eq _ _ _ _ _ h

theorem ex_move {x : Operand} (hΓ : EnvOK P C.G Γ) (r : Rel P C ρ S st a w) (ho : o.op = .move x) (h : exOp Γ id o st k = some y) : OpGoal P C o a w k y := by
  simp only [exOp, ho, seen_eq] at h
  exact op_value (exec_move ho w) (operand_sound hΓ r x) r h
theorem ex_assign {x : Operand} (hΓ : EnvOK P C.G Γ) (r : Rel P C ρ S st a w) (ho : o.op = .assign x) (h : exOp Γ id o st k = some y) : OpGoal P C o a w k y := by
  simp only [exOp, ho, seen_eq] at h
  exact op_value (exec_assign ho w) (operand_sound hΓ r x) r h
theorem ex_pick {c x z : Operand} (hΓ : EnvOK P C.G Γ) (r : Rel P C ρ S st a w) (ho : o.op = .pick c x z) (h : exOp Γ id o st k = some y) : OpGoal P C o a w k y := by
  simp only [exOp, ho] at h
  split at h <;> try (cases h; done)
  rename_i v hc
  exact op_pick hΓ r ho hc h
theorem ex_alloc {e : TypeId} (hΓ : EnvOK P C.G Γ) (r : Rel P C ρ S st a w) (ho : o.op = .alloc e) (h : exOp Γ id o st k = some y) : OpGoal P C o a w k y := by
  simp only [exOp, ho] at h
  split at h <;> try (cases h; done)
  rename_i row hT hf
  exact op_alloc hΓ r ho hT hf h
theorem ex_box {e : TypeId} {x : Operand} (hΓ : EnvOK P C.G Γ) (r : Rel P C ρ S st a w) (ho : o.op = .box e x) (h : exOp Γ id o st k = some y) : OpGoal P C o a w k y := by
  simp only [exOp, ho] at h
  split at h <;> try (cases h; done)
  rename_i row g cs hT hx hf
  obtain ⟨_, h⟩ := bif_none h
  exact op_box hΓ r ho hx hf h
theorem ex_load {t : TypeId} {x : Operand} (hΓ : EnvOK P C.G Γ) (r : Rel P C ρ S st a w) (ho : o.op = .load t x) (h : exOp Γ id o st k = some y) : OpGoal P C o a w k y := by
  simp only [exOp, ho, seen_eq] at h
  have hxv := operand_sound hΓ r x
  split at h
  · rename_i row b c hT hx
    rw [hx] at hxv
    split at h <;> try (cases h; done)
    rename_i l cs hm
    obtain ⟨hle, h⟩ := bif_none h
    have hle' : c + row.ty.size ≤ cs.length := Nat.le_of_ble_eq_true hle
    simp only [RepPV, RepLV, hm] at hxv
    obtain ⟨_, g, hg1, hg2⟩ := hxv
    have hb := r.mem b
    unfold RepBlk at hb; rw [hm] at hb
    obtain ⟨g', T, vs, hb1, hb2, hb3, hb4, hb5⟩ := hb
    rw [hg1] at hb1; cases hb1
    have hlen := All2.length hb4
    refine op_load hΓ r ho hT hg2 (us := (vs.drop c).take row.ty.size) (by simp; omega) ?_ (All2.take _ (All2.drop _ hb4)) h
    exact lies_row hb3 c fun j u hu => by
      have := getElem?_take_drop hu
      simpa using this
  · rename_i row b i hT hx
    rw [hx] at hxv
    split at h <;> try (cases h; done)
    · rename_i l tid e xs hm
      split at h <;> try (cases h; done)
      rename_i ys hy
      obtain ⟨he, hy⟩ := castList hy
      subst hy
      simp only [RepPV, RepLV, hm] at hxv
      obtain ⟨_, hi, g, n, k', hρ, hv⟩ := hxv
      have hb := r.mem b
      unfold RepBlk at hb; rw [hm] at hb
      obtain ⟨cells, hb1, hb2, hb3⟩ := hb
      obtain ⟨rty, hrty⟩ : ∃ rty, rty = row.ty := ⟨_, rfl⟩
      rw [← hrty] at he
      subst he
      have hget : xs[i]? = some (xs.getD i (zeroD e)) := by simp [List.getD, List.getElem?_eq_getElem hi]
      have hE := Es.get (n := e.size) (fun x cs h => RepD.length h) i hb2 hget
      have hlen : ((cells.drop (i * e.size)).take e.size).length = e.size := RepD.length hE
      have hL : Lies w ⟨g, i * e.size, none⟩ ((cells.drop (i * e.size)).take e.size) := by
        rcases hb1.2 with ⟨e1, _⟩ | ⟨g', cap, cur, e1, _, hh, _, _, _, h6⟩
        · rw [hρ] at e1; cases e1
        · rw [hρ] at e1; cases e1
          refine lies_row hh _ fun j u hu => ?_
          have := getElem?_take_drop hu
          rw [← h6, List.getElem?_take] at this
          split at this
          · simpa using this
          · cases this
      have hc := cellsD_sound (ρ := ρ) (m := st.m) hE
      refine op_load hΓ r ho hT hv (us := (cells.drop (i * e.size)).take e.size) (by rw [hlen, hrty]) hL hc ?_
      have key : ∀ (t : Ty) (hrty : e = t), k (ofCells t.agg (cellsD t ((hrty ▸ xs : List (Den t)).getD i (zeroD t)))) st = k (ofCells t.agg (cellsD e (xs.getD i (zeroD e)))) st := by intro t ht; subst ht; rfl
      rw [key _ hrty] at h
      exact h
    · rename_i tid e xs j jd hm
      split at h <;> try (cases h; done)
      rename_i zs l2 tid2 e2 ys hc hmj
      obtain ⟨he, _⟩ := castList hc
      obtain ⟨hij, h'⟩ := cond_none h
      clear h
      subst hij
      simp only [RepPV, RepLV, hm] at hxv
      obtain ⟨_, hi, g, n, k', hρ, hv⟩ := hxv
      have hb := r.mem b
      unfold RepBlk at hb; rw [hm] at hb
      obtain ⟨s1, s2, cells, hown, hlc, _, _, v, v1, v2, v3⟩ := hb
      rw [hmj] at v3
      have hL : Lies w ⟨g, i * e.size, none⟩ [v] := by
        rcases hown.2 with ⟨e1, _⟩ | ⟨g', cap, cur, e1, _, hh, _, _, _, h6⟩
        · rw [hρ] at e1; cases e1
        · rw [hρ] at e1; cases e1
          refine lies_row hh _ fun p u hu => ?_
          rcases p with _ | p
          · have hu : v = u := by simpa using hu
            subst hu
            rw [s1, Nat.mul_one] at h6 ⊢
            have v1' : (cur.toList.take xs.length)[i]? = some v := by rw [h6]; exact v1
            rw [List.getElem?_take_of_lt hi] at v1'
            simpa using v1'
          · simp at hu
      refine op_load hΓ r ho hT hv (us := [v]) (cs := [.own jd]) (by rw [← he, s1]; rfl) hL ⟨?_, trivial⟩ ?_
      · simp only [RepLV, hmj]; exact ⟨v2, v3⟩
      · rw [← he, s2]; exact h'
    · rename_i l t1 t2 e xs u hm
      obtain ⟨hsl, h'⟩ := bif_none h
      exact op_load_deep hΓ r ho hT hx hm hsl h'
  · rename_i row e z hT hx
    rw [hx] at hxv
    split at h <;> try (cases h; done)
    rename_i z' hz
    obtain ⟨he, hz⟩ := castTy_eq _ Den _ _ _ hz
    subst he; subst hz
    simp only [RepPV, RepLV, RepD] at hxv
    obtain ⟨ad, es, hv, _, h1, h2⟩ := hxv
    have hv : a.eval x = .pointer (some ad) := by simpa using hv
    exact op_load hΓ r ho hT hv (RepD.length h1) h2 (cellsD_sound h1) h
  · cases h
theorem ex_store {t : TypeId} {x z : Operand} (hΓ : EnvOK P C.G Γ) (r : Rel P C ρ S st a w) (ho : o.op = .store t x z) (h : exOp Γ id o st k = some y) : OpGoal P C o a w k y := by
  simp only [exOp, ho] at h
  split at h
  · rename_i row b c g ds hT hx hz
    obtain ⟨hg, h⟩ := bif_none h
    split at h <;> try (cases h; done)
    rename_i cs hm
    obtain ⟨hle, h⟩ := bif_none h
    simp only [Bool.and_eq_true, beq_iff_eq] at hg
    exact op_store_var hΓ r ho hT hx hz (Nat.eq_of_beq_eq_true hg.2) hm (Nat.le_of_ble_eq_true hle) h
  · rename_i row b i g ds hT hx hz
    obtain ⟨hg, h⟩ := bif_none h
    split at h <;> try (cases h; done)
    rotate_left
    · rename_i t1 t2 e xs oo u hm
      split at h <;> try (cases h; done)
      rename_i j
      split at h <;> try (cases h; done)
      rename_i t2' e' zs0 hmj
      obtain ⟨hb, h2⟩ := bif_none h
      clear h
      simp only [Bool.and_eq_true] at hb
      obtain ⟨ht, hsl, hb0⟩ := hb
      have ht := Nat.eq_of_beq_eq_true ht
      subst ht
      have hb0 : 0 < b := by simpa using hb0
      split at h2 <;> try (cases h2; done)
      rename_i zs hc
      obtain ⟨he, hc⟩ := castList hc
      subst he; subst hc
      split at h2
      · exact op_store_deep hΓ r ho hT hx hz hm hmj hb0 hsl (fun p h => by cases h) h2
      · rename_i p
        obtain ⟨hip, h3⟩ := cond_none h2
        exact op_store_deep hΓ r ho hT hx hz hm hmj hb0 hsl (fun q h => by cases h; exact hip) h3
    rename_i e0 e xs0 hm
    split at h
    · rename_i j hl
      obtain ⟨hjb, h1⟩ := bif_none' h
      clear h
      split at h1 <;> try (cases h1; done)
      rename_i xs hc
      obtain ⟨hsl, h2⟩ := bif_none h1
      clear h1
      obtain ⟨he, hc⟩ := castList hc
      subst he; subst hc
      unfold loanOf at hl
      cases hlo : Γ.loan with
      | false => rw [hlo] at hl; cases hl
      | true =>
        rw [hlo] at hl
        simp only [cond_true] at hl
        split at hl <;> try (cases hl; done)
        rename_i j'
        split at hl <;> try (cases hl; done)
        rename_i tid2 e2 ys hmj
        cases hl
        exact op_store_loan hΓ r ho hT hx hz hm hmj (fun e => by subst e; rw [Nat.beq_refl] at hjb; cases hjb) hsl h2
    split at h <;> try (cases h; done)
    rename_i xs u fz hc hd
    obtain ⟨hf, h⟩ := bif_none' h
    obtain ⟨he, hc⟩ := castList hc
    subst he; subst hc
    exact op_store_row hΓ r ho hT hx hz hm hd (by simpa using hf) h
  · rename_i row b i n u g ds hT hx hz
    obtain ⟨hg, h⟩ := bif_none h
    split at h <;> try (cases h; done)
    rename_i t1 t2 e xs0 u0 hm
    obtain ⟨hu, h1⟩ := bif_none h
    clear h
    have hu := Nat.eq_of_beq_eq_true hu
    subst hu
    split at h1 <;> try (cases h1; done)
    rename_i xs y0 fz hc hd
    obtain ⟨hf, h2⟩ := bif_none' h1
    clear h1
    obtain ⟨he, hc⟩ := castTy_eq _ _ _ _ _ hc
    subst he; subst hc
    exact op_store_inn hΓ r ho hT hx hz hm hd (by simpa using hf) h2
  · cases h
theorem ex_binOp {op : BinOp} {t : TypeId} {x z : Operand} {q : TypeId} (hΓ : EnvOK P C.G Γ) (r : Rel P C ρ S st a w) (ho : o.op = .binOp op t x z q) (h : exOp Γ id o st k = some y) : OpGoal P C o a w k y := by
  simp only [exOp, ho] at h
  obtain ⟨u, hx, h⟩ := one1_some h
  obtain ⟨v, hz, h⟩ := one1_some h
  have hxv := operand_sound hΓ r x
  have hzv := operand_sound hΓ r z
  rw [hx] at hxv
  rw [hz] at hzv
  have key : (∃ b, u = .bool b ∧ P.underlying t = some .bool ∧ binLV op u v (fun v => k (.one v) st) = some y) ∨ ((∀ b, u ≠ .bool b) ∧ binLV op u v (fun v => k (.one v) st) = some y) := by
    cases u with
    | bool b =>
      simp only at h
      split at h <;> try (cases h; done)
      rename_i row hT
      split at h <;> try (cases h; done)
      rename_i hk
      have := (hΓ.T t row hT).kind
      rw [hk] at this
      exact .inl ⟨b, rfl, this, h⟩
    | _ => exact .inr ⟨fun b hb => (by cases hb), h⟩
  have hb : (∀ b c, u = .bool b → v = .bool c → P.underlying t = some .bool) ∧ binLV op u v (fun v => k (.one v) st) = some y := by
    rcases key with ⟨b, rfl, hu, h⟩ | ⟨hn, h⟩
    · exact ⟨fun _ _ _ _ => hu, h⟩
    · exact ⟨fun b _ e _ => absurd e (hn b), h⟩
  obtain ⟨u', v', h1, h2, h3⟩ := binLV_sound (P := P) (ρ := ρ) (m := st.m) (S := S) (w := w) (X := x) (Y := z) hb.2 hxv hzv hb.1
  refine op_value (v := v') (pv := .one u') ?_ h2 r h1
  simp only [execOp, ho]
  simp only [Sem.run_bind] at h3 ⊢
  revert h3
  generalize (eqGuard op t x z (a.eval x) (a.eval z)).run P w = q1
  intro h3
  cases q1 with
  | halt _ _ => cases h3
  | ok _ w1 =>
    simp only [Result.andThen_ok] at h3 ⊢
    rw [h3]; rfl
theorem ex_unOp {op : UnOp} {t : TypeId} {x : Operand} (hΓ : EnvOK P C.G Γ) (r : Rel P C ρ S st a w) (ho : o.op = .unOp op t x) (h : exOp Γ id o st k = some y) : OpGoal P C o a w k y := by
  simp only [exOp, ho] at h
  obtain ⟨u, hx, h⟩ := one1_some h
  have hxv := operand_sound hΓ r x
  rw [hx] at hxv
  obtain ⟨u', v', h1, h2, h3⟩ := unLV_sound (P := P) (ρ := ρ) (m := st.m) (S := S) (w := w) h hxv
  exact op_value (v := v') (pv := .one u') (by simp only [execOp, ho, Sem.run_bind, h3]; rfl) h2 r h1
theorem ex_convert {s d : TypeId} {x : Operand} (hΓ : EnvOK P C.G Γ) (r : Rel P C ρ S st a w) (ho : o.op = .convert s d x) (h : exOp Γ id o st k = some y) : OpGoal P C o a w k y := by
  simp only [exOp, ho] at h
  split at h <;> try (cases h; done)
  rename_i sr dr hs hd
  split at h
  · rename_i c0 c q n hsk hdk hx
    exact op_conv_int hΓ r ho hs hd hsk hdk hx h
  · rename_i z hsk hdk hx
    exact op_conv_str hΓ r ho hs hd hsk hdk hx h
  · rename_i e z hsk hdk hx
    split at h <;> try (cases h; done)
    rename_i er hE
    split at h <;> try (cases h; done)
    rename_i hek
    exact op_conv_bytes hΓ r ho hs hd hsk hdk hE hek hx h
  · cases h
theorem same_eval {lo co : Operand} (h : sameOperand lo co = true) : a.eval co = a.eval lo := by
  cases lo <;> cases co <;> simp only [sameOperand] at h <;> try (cases h; done)
  · rw [Nat.eq_of_beq_eq_true h]
  · rename_i v v'
    cases v <;> cases v' <;> simp only [sameOperand] at h <;> try (cases h; done)
    simp only [Bool.and_eq_true, decide_eq_true_eq] at h
    rw [h.1, h.2]
end Go.PM

/-! PmOp9 -/
namespace Go.PM
open Go.RowKit
set_option linter.unusedVariables false
set_option linter.unusedSimpArgs false
variable {P : Program} {Γ : Env} {C : Ctx} {ρ : Nat → Value} {S : Nat → Prop} {st : St} {a : Act} {w : World}
variable {R : Type} {o : Oper} {k : PV → St → Option R} {y : R} {id : Nat}

theorem ex_build {t : TypeId} {parts : Array (Nat × Operand)} (hΓ : EnvOK P C.G Γ) (r : Rel P C ρ S st a w) (ho : o.op = .build t parts) (h : exOp Γ id o st k = some y) : OpGoal P C o a w k y := by
  simp only [exOp, ho] at h
  split at h <;> try (cases h; done)
  rename_i row hT
  split at h
  · rename_i fs hk
    obtain ⟨hall, h⟩ := bif_none h
    split at h <;> try (cases h; done)
    rename_i cs hp
    exact op_build_st hΓ r ho hT hk hall hp h
  · rename_i n e hk
    split at h <;> try (cases h; done)
    rename_i er hE
    split at h <;> try (cases h; done)
    rename_i cs hp
    exact op_build_arr hΓ r ho hT hk hE hp h
  · cases h
theorem ex_buildSlice {t : TypeId} {len : Nat} {parts : Array (Nat × Operand)} (hΓ : EnvOK P C.G Γ) (r : Rel P C ρ S st a w) (ho : o.op = .buildSlice t len parts) (h : exOp Γ id o st k = some y) : OpGoal P C o a w k y := by
  simp only [exOp, ho] at h
  split at h <;> try (cases h; done)
  rename_i row hT hf
  split at h <;> try (cases h; done)
  rename_i e hk
  split at h <;> try (cases h; done)
  rename_i er hE
  split at h <;> try (cases h; done)
  rename_i xs fz hp
  obtain ⟨hb, h⟩ := bif_none h
  simp only [Bool.and_eq_true] at hb
  exact op_buildSlice hΓ r ho hT hk hE hf hp (Nat.eq_of_beq_eq_true hb.1) (Nat.le_of_ble_eq_true hb.2.1) (Nat.le_of_ble_eq_true hb.2.2) h
theorem ex_make {t : TypeId} {lo co : Operand} (hΓ : EnvOK P C.G Γ) (r : Rel P C ρ S st a w) (ho : o.op = .makeSlice t lo co) (h : exOp Γ id o st k = some y) : OpGoal P C o a w k y := by
  simp only [exOp, ho] at h
  obtain ⟨hs, h⟩ := bif_none h
  split at h <;> try (cases h; done)
  rename_i row n hT hn hf
  split at h <;> try (cases h; done)
  rename_i e hk
  split at h <;> try (cases h; done)
  rename_i er hE
  obtain ⟨hb, h⟩ := bif_none h
  simp only [Bool.and_eq_true] at hb
  obtain ⟨h0, h⟩ := cond_none h
  obtain ⟨h1, h⟩ := cond_none h
  have hb2 := Nat.le_of_ble_eq_true hb.2
  have h2 : n * 1 ≤ n * (er.bytes : Int) := Int.mul_le_mul_of_nonneg_left (by omega) h0
  rcases madeRow_cases Γ e er n.toNat with he | ⟨u, e2, hty, he⟩
  · rw [he] at h
    exact op_make hΓ r ho (same_eval hs) hT hk hE hn hf hb.1 h0 h1 (by omega) h
  · rw [he] at h
    exact op_make_deep hΓ r ho (same_eval hs) hT hk hE hn hf hty h0 h1 (by omega) h
theorem ex_slice {t : TypeId} {x : Operand} {lo hi mx : Option Operand} (hΓ : EnvOK P C.G Γ) (r : Rel P C ρ S st a w) (ho : o.op = .slice t x lo hi mx) (h : exOp Γ id o st k = some y) : OpGoal P C o a w k y := by
  simp only [exOp, ho] at h
  split at h <;> try (cases h; done)
  rename_i l hh m hl hhi hm
  split at h <;> try (cases h; done)
  rename_i row hT
  split at h
  · rename_i s hk hx
    exact op_slice_str hΓ r ho hT hk hl hhi hm hx h
  · rename_i e' e xs0 hk hx
    split at h <;> try (cases h; done)
    rename_i er hE
    split at h <;> try (cases h; done)
    rename_i xs hc
    obtain ⟨he, hc⟩ := castList hc
    subst he; subst hc
    exact op_slice_data hΓ r ho hT hk hE hl hhi hm hx h
  · rename_i e' b hk hx
    split at h <;> try (cases h; done)
    rename_i er hE
    split at h <;> try (cases h; done)
    rename_i lv tid e xs0 hmb
    split at h <;> try (cases h; done)
    rename_i xs hc
    obtain ⟨he, hc⟩ := castList hc
    subst he; subst hc
    exact op_slice_own hΓ r ho hT hk hE hl hhi hm hx hmb h
  · rename_i e' b off len hk hx
    split at h <;> try (cases h; done)
    rename_i er hE
    split at h <;> try (cases h; done)
    rename_i lv tid e xs0 hmb
    split at h <;> try (cases h; done)
    rename_i xs hc
    obtain ⟨he, hc⟩ := castList hc
    subst he; subst hc
    exact op_slice_sub hΓ r ho hT hk hE hl hhi hm hx hmb h
  · cases h
theorem ex_field {t : TypeId} {x : Operand} {f : Nat} (hΓ : EnvOK P C.G Γ) (r : Rel P C ρ S st a w) (ho : o.op = .fieldAddr t x f) (h : exOp Γ id o st k = some y) : OpGoal P C o a w k y := by
  simp only [exOp, ho] at h
  split at h <;> try (cases h; done)
  rename_i row hT
  split at h <;> try (cases h; done)
  rename_i fs hk
  split at h <;> try (cases h; done)
  rename_i off u hf
  split at h
  · rename_i ur b c hU hx
    split at h <;> try (cases h; done)
    rename_i l cs hm
    obtain ⟨hs, h⟩ := bif_none' h
    exact op_field_var hΓ r ho hT hk hf hU (Nat.ne_of_beq_eq_false hs) hx hm h
  · rename_i ur e z hU hx
    obtain ⟨hs, h⟩ := bif_none' h
    split at h <;> try (cases h; done)
    rename_i z' hc
    obtain ⟨he, hc⟩ := castTy_eq _ Den _ _ _ hc
    subst he; subst hc
    split at h <;> try (cases h; done)
    rename_i q hq
    exact op_field_data hΓ r ho hT hk hf hU (Nat.ne_of_beq_eq_false hs) hx hq h
  · cases h
theorem ex_indexAddr {t : TypeId} {x i : Operand} (hΓ : EnvOK P C.G Γ) (r : Rel P C ρ S st a w) (ho : o.op = .indexAddr t x i) (h : exOp Γ id o st k = some y) : OpGoal P C o a w k y := by
  simp only [exOp, ho] at h
  split at h <;> try (cases h; done)
  rename_i row q n hT hi
  split at h <;> try (cases h; done)
  · rename_i e hk
    split at h
    · rename_i er e' xs0 hE hx
      split at h <;> try (cases h; done)
      rename_i xs hc
      obtain ⟨he, hc⟩ := castList hc
      subst he; subst hc
      obtain ⟨h0, h⟩ := cond_none h
      obtain ⟨h1, h⟩ := cond_none h
      exact op_index_data hΓ r ho hT hk hE hi hx h0 h1 h
    · rename_i er b hE hx
      split at h <;> try (cases h; done)
      · rename_i l tid e' xs0 hm
        split at h <;> try (cases h; done)
        rename_i xs hc
        obtain ⟨he, hc⟩ := castList hc
        subst he; subst hc
        obtain ⟨h0, h⟩ := cond_none h
        obtain ⟨h1, h⟩ := cond_none h
        exact op_index_own hΓ r ho hT hk hE hi hx hm h0 h1 h
      · rename_i tid e' xs0 j1 j2 hm
        split at h <;> try (cases h; done)
        rename_i xs hc
        obtain ⟨he, hc⟩ := castList hc
        subst he; subst hc
        obtain ⟨h0, h⟩ := cond_none h
        obtain ⟨h1, h⟩ := cond_none h
        exact op_index_hole hΓ r ho hT hk hE hi hx hm h0 h1 h
      · rename_i l t1 t2 e' xs oo u hm
        obtain ⟨hsl, h1⟩ := bif_none h
        clear h
        obtain ⟨h0, h2⟩ := cond_none h1
        obtain ⟨h3, h4⟩ := cond_none h2
        exact op_index_deep hΓ r ho hT hk hE hi hx hm hsl h0 h3 h4
    · rename_i er b j u hE hx
      split at h <;> try (cases h; done)
      rename_i l t1 t2 e' xs0 u0 hm
      obtain ⟨hu, h1⟩ := bif_none h
      clear h
      have hu := Nat.eq_of_beq_eq_true hu
      subst hu
      split at h1 <;> try (cases h1; done)
      rename_i xs hc
      obtain ⟨he, hc⟩ := castTy_eq _ _ _ _ _ hc
      subst he; subst hc
      obtain ⟨h0, h2⟩ := cond_none h1
      obtain ⟨h3, h4⟩ := cond_none h2
      exact op_index_inn hΓ r ho hT hk hE hi hx hm h0 h3 h4
    · rename_i er b off len hE hx
      split at h <;> try (cases h; done)
      rename_i l tid e' xs0 hm
      split at h <;> try (cases h; done)
      rename_i xs hc
      obtain ⟨he, hc⟩ := castList hc
      subst he; subst hc
      obtain ⟨h0, h⟩ := cond_none h
      obtain ⟨h1, h⟩ := cond_none h
      exact op_index_sub hΓ r ho hT hk hE hi hx hm h0 h1 h
    · cases h
  · rename_i len e hk
    split at h <;> try (cases h; done)
    rename_i er b c hE hx
    split at h <;> try (cases h; done)
    rename_i l cs hm
    obtain ⟨h0, h⟩ := cond_none h
    obtain ⟨h1, h⟩ := cond_none h
    exact op_index_var hΓ r ho hT hk hE hi hx hm h0 (by omega) h
theorem ex_index {t : TypeId} {x i : Operand} (hΓ : EnvOK P C.G Γ) (r : Rel P C ρ S st a w) (ho : o.op = .index t x i) (h : exOp Γ id o st k = some y) : OpGoal P C o a w k y := by
  simp only [exOp, ho, seen_eq] at h
  split at h
  · rename_i s q n hx hi
    split at h <;> try (cases h; done)
    rename_i row hT
    split at h <;> try (cases h; done)
    rename_i hk
    obtain ⟨h0, h⟩ := cond_none h
    obtain ⟨h1, h⟩ := cond_none h
    exact op_index_str hΓ r ho hi hx hT hk h0 (by omega) h
  · rename_i cs q n hx hi
    split at h <;> try (cases h; done)
    rename_i row hT
    split at h <;> try (cases h; done)
    rename_i len e hk
    split at h <;> try (cases h; done)
    rename_i er hE
    obtain ⟨h0, h⟩ := cond_none h
    obtain ⟨h1, h⟩ := cond_none h
    obtain ⟨hf, h⟩ := bif_none h
    exact op_index_arr hΓ r ho hi hx hT hk hE h0 (by omega) (Nat.le_of_ble_eq_true hf) h
  · cases h
theorem ex_fieldOf {t : TypeId} {x : Operand} {f : Nat} (hΓ : EnvOK P C.G Γ) (r : Rel P C ρ S st a w) (ho : o.op = .field t x f) (h : exOp Γ id o st k = some y) : OpGoal P C o a w k y := by
  simp only [exOp, ho, seen_eq] at h
  split at h <;> try (cases h; done)
  rename_i row cs hT hx
  split at h <;> try (cases h; done)
  rename_i fs hk
  split at h <;> try (cases h; done)
  rename_i off u hf
  split at h <;> try (cases h; done)
  rename_i ur hU
  obtain ⟨hs, h⟩ := bif_none h
  exact op_field hΓ r ho hx hT hk hf hU (Nat.le_of_ble_eq_true hs) h
theorem ex_extract {x : Operand} {i : Nat} (hΓ : EnvOK P C.G Γ) (r : Rel P C ρ S st a w) (ho : o.op = .extract x i) (h : exOp Γ id o st k = some y) : OpGoal P C o a w k y := by
  simp only [exOp, ho, seen_eq] at h
  split at h <;> try (cases h; done)
  rename_i vs hx
  split at h <;> try (cases h; done)
  rename_i g cs hi
  exact op_extract hΓ r ho hx hi h
theorem ex_makeFunc {f : Fn} {fi ca : Array Operand} (hΓ : EnvOK P C.G Γ) (r : Rel P C ρ S st a w) (ho : o.op = .makeFunc f fi ca) (h : exOp Γ id o st k = some y) : OpGoal P C o a w k y := by
  cases f with
  | func g =>
    simp only [exOp, ho] at h
    split at h <;> try (cases h; done)
    rename_i c E h1 h2 hΦ
    split at h <;> try (cases h; done)
    rename_i x hx hfr hwin
    split at h <;> try (cases h; done)
    rename_i p1 p2 e F hp hF
    split at h <;> try (cases h; done)
    rename_i z fz hto
    have e1 : fi = #[] := by rw [← Array.toArray_toList (xs := fi), h1]
    have e2 : ca = #[c] := by rw [← Array.toArray_toList (xs := ca), h2]
    subst e1; subst e2
    obtain ⟨p, q, fr, FF, win⟩ := E
    simp only at hp hF hfr hwin h
    subst hp; subst hfr; subst hwin
    simp only [heq_eq_eq] at hF
    subst hF
    exact op_makeFunc hΓ r ho hΦ hx hto h
  | _ => simp only [exOp, ho] at h; cases h
theorem ex_range {t : TypeId} {x : Operand} (hΓ : EnvOK P C.G Γ) (r : Rel P C ρ S st a w) (ho : o.op = .range t x) (h : exOp Γ id o st k = some y) : OpGoal P C o a w k y := by
  simp only [exOp, ho] at h
  split at h <;> try (cases h; done)
  rename_i row s hT hx hf
  split at h <;> try (cases h; done)
  rename_i hk
  exact op_range hΓ r ho hT hk hx hf h
theorem ex_next {x : Operand} {q : Bool} (hΓ : EnvOK P C.G Γ) (r : Rel P C ρ S st a w) (ho : o.op = .next x q) (h : exOp Γ id o st k = some y) : OpGoal P C o a w k y := by
  cases q with
  | false => simp only [exOp, ho] at h; cases h
  | true =>
    simp only [exOp, ho] at h
    split at h <;> try (cases h; done)
    rename_i b hx
    split at h <;> try (cases h; done)
    rename_i s pos hm
    exact op_next hΓ r ho hx hm h
end Go.PM

/-! PmOp10 -/
namespace Go.PM
open Go.RowKit
set_option linter.unusedVariables false
set_option linter.unusedSimpArgs false
variable {P : Program} {Γ : Env} {C : Ctx} {ρ : Nat → Value} {S : Nat → Prop} {st : St} {a : Act} {w : World}
variable {R : Type} {o : Oper} {k : PV → St → Option R} {y : R} {id : Nat}

theorem arr1 {α : Type} {l : Array α} {x : α} (h : l.toList = [x]) : l = #[x] := by rw [← Array.toArray_toList (xs := l), h]
theorem arr2 {α : Type} {l : Array α} {x y : α} (h : l.toList = [x, y]) : l = #[x, y] := by rw [← Array.toArray_toList (xs := l), h]

theorem ex_builtin {b : Builtin} {args : Array Operand} {ts : Array TypeId} (hΓ : EnvOK P C.G Γ) (r : Rel P C ρ S st a w) (ho : o.op = .call ⟨.builtin b, args, ts⟩) (h : exBuiltin Γ id b ⟨.builtin b, args, ts⟩ st k = some y) : OpGoal P C o a w k y := by
  unfold exBuiltin at h
  simp only at h
  split at h
  · rename_i x t ha ht
    have ha := arr1 ha
    have ht := arr1 ht
    subst ha; subst ht
    have hxv := operand_sound hΓ r x
    split at h <;> try (cases h; done)
    rename_i row hT
    split at h
    · rename_i e hk hx
      rw [hx] at hxv
      simp only [RepPV, RepLV] at hxv
      exact op_len_slice (n := 0) hΓ r ho hT hk ⟨_, _, hxv⟩ h
    · rename_i e e' xs hk hx
      rw [hx] at hxv
      simp only [RepPV, RepLV, RepD] at hxv
      obtain ⟨A, c, e1, _⟩ := hxv
      exact op_len_slice hΓ r ho hT hk ⟨A, c, by simpa using e1⟩ h
    · rename_i e b hk hx
      rw [hx] at hxv
      split at h <;> try (cases h; done)
      · rename_i l tid e' xs hm
        simp only [RepPV, RepLV, hm] at hxv
        rcases row_slice r hm with ⟨e1, e2⟩ | ⟨g, c, e1, _⟩
        · subst e2
          exact op_len_slice hΓ r ho hT hk ⟨_, _, hxv.2.trans e1⟩ h
        · exact op_len_slice hΓ r ho hT hk ⟨_, _, hxv.2.trans e1⟩ h
      · rename_i l t1 t2 e' xs oo u hm
        simp only [RepPV, RepLV, hm] at hxv
        obtain ⟨v, hs, k1, k2, hd⟩ := deep_hd r hm
        obtain ⟨cells, c1, _⟩ := hd.row
        rcases c1.2 with ⟨e1, e2⟩ | ⟨g, cap, cur, e1, _⟩
        · have : xs = [] := List.eq_nil_of_length_eq_zero e2
          subst this
          exact op_len_slice hΓ r ho hT hk ⟨_, _, hxv.2.trans (k2.trans e1)⟩ h
        · exact op_len_slice hΓ r ho hT hk ⟨_, _, hxv.2.trans (k2.trans e1)⟩ h
    · rename_i e b off len hk hx
      rw [hx] at hxv
      split at h <;> try (cases h; done)
      rename_i l tid e' xs hm
      simp only [RepPV, RepLV, hm] at hxv
      obtain ⟨_, _, A, c, e1, _⟩ := hxv
      exact op_len_slice hΓ r ho hT hk ⟨_, _, e1⟩ h
    · rename_i s hk hx
      exact op_len_str hΓ r ho hT hk hx h
    · cases h
  · rename_i x z ha
    have ha := arr2 ha
    subst ha
    split at h <;> try (cases h; done)
    rename_i c m d n hx hz
    split at h <;> try (cases h; done)
    rename_i hcd; subst hcd
    exact op_min hΓ r ho hx hz h
  · rename_i x z ha
    have ha := arr2 ha
    subst ha
    split at h <;> try (cases h; done)
    rename_i c m d n hx hz
    split at h <;> try (cases h; done)
    rename_i hcd; subst hcd
    exact op_max hΓ r ho hx hz h
  · rename_i s x t u ha ht
    have ha := arr2 ha
    have ht := arr2 ht
    subst ha; subst ht
    have h' := bif_none h
    clear h
    obtain ⟨htu, h⟩ := h'
    have htu := Nat.eq_of_beq_eq_true htu
    subst htu
    split at h <;> try (cases h; done)
    rename_i row hT
    split at h <;> try (cases h; done)
    rename_i e hk
    split at h <;> try (cases h; done)
    rename_i er hE
    obtain ⟨xv, hx, h⟩ := one1_some h
    unfold listOf at h
    split at h <;> try (cases h; done)
    rename_i ys fz rest hto
    split at h
    · rename_i hs hf
      obtain ⟨hb, h⟩ := bif_none h
      obtain ⟨hfit, h⟩ := cond_none h
      have hb := Nat.le_of_ble_eq_true hb
      have h2 : ys.length * 1 ≤ ys.length * er.bytes := Nat.mul_le_mul_left _ hb
      exact op_append (xs := []) hΓ r ho hT hk hE hx hto hf (.inl ⟨hs, rfl, rfl⟩) (by simpa using hfit) (by simp; omega) h
    · rename_i b hs hf
      split at h <;> try (cases h; done)
      rename_i e0 e' xs0 hm
      obtain ⟨hb, h⟩ := bif_none h
      simp only [Bool.and_eq_true] at hb
      have he0 := Nat.eq_of_beq_eq_true hb.1
      subst he0
      split at h <;> try (cases h; done)
      rename_i xs hc
      obtain ⟨he, hc⟩ := castList hc
      subst he; subst hc
      obtain ⟨hfit, h⟩ := cond_none h
      have hb := Nat.le_of_ble_eq_true hb.2
      have h2 : (xs0.length + ys.length) * 1 ≤ (xs0.length + ys.length) * er.bytes := Nat.mul_le_mul_left _ hb
      have hfit' : (xs0.length + ys.length) * er.bytes ≤ 140737488351232 := hfit
      exact op_append (xs := xs0) hΓ r ho hT hk hE hx hto hf (.inr (.inl ⟨b, hs, hm, rfl⟩)) hfit' (by omega) h
    · rename_i b i u hs hf
      split at h <;> try (cases h; done)
      rename_i t1 e0 e' xs0 u0 hm
      obtain ⟨hb, h1⟩ := bif_none h
      clear h
      simp only [Bool.and_eq_true] at hb
      obtain ⟨⟨he0, hu⟩, hb0, hb1⟩ := hb
      have he0 := Nat.eq_of_beq_eq_true he0
      have hu := Nat.eq_of_beq_eq_true hu
      subst he0; subst hu
      have hb0 : 0 < b := by simpa using hb0
      split at h1 <;> try (cases h1; done)
      rename_i xs hc
      obtain ⟨he, hc⟩ := castTy_eq _ _ _ _ _ hc
      subst he; subst hc
      obtain ⟨hfit, h2⟩ := cond_none h1
      have hb := Nat.le_of_ble_eq_true hb1
      have h3 : ((xs0.getD i []).length + ys.length) * 1 ≤ ((xs0.getD i []).length + ys.length) * er.bytes := Nat.mul_le_mul_left _ hb
      have hfit' : ((xs0.getD i []).length + ys.length) * er.bytes ≤ 140737488351232 := hfit
      exact op_append (xs := xs0.getD i []) hΓ r ho hT hk hE hx hto hf (.inr (.inr ⟨b, i, u0, t1, xs0, hs, hm, hb0, rfl, rfl⟩)) hfit' (by omega) h2
    · cases h
  · rename_i s x t u ha ht
    have ha := arr2 ha
    have ht := arr2 ht
    subst ha; subst ht
    split at h <;> try (cases h; done)
    rename_i row row' hT hT'
    split at h <;> try (cases h; done)
    rename_i e e2 hk hk'
    split at h <;> try (cases h; done)
    rename_i er hE
    obtain ⟨xv, hx, h⟩ := one1_some h
    unfold listOf at h
    split at h <;> try (cases h; done)
    rename_i ys fz rest hto
    split at h <;> try (cases h; done)
    rename_i b hs
    split at h <;> try (cases h; done)
    rename_i e0 e' xs0 hm
    split at h <;> try (cases h; done)
    rename_i xs hc
    obtain ⟨he, hc⟩ := castList hc
    subst he; subst hc
    exact op_copy (e2 := e2) (row' := row') hΓ r ho hT hk hE hx hto hs hm h
  · cases h

/-- A call of a function value. -/
theorem exCall_sound (hΓ : EnvOK P C.G Γ) (r : Rel P C ρ S st a w) {f : PV} {args : List PV} {fv : Value} {vs : List Value} (h : exCall Γ id f args st k = some y)
    (hf : RepPV P ρ st.m w S f fv) (ha : All2 (RepPV P ρ st.m w S) args vs) : ∃ g caps, fv = .func (.func g) #[] caps ∧ hasBody P g ∧ Calls P g (vs.toArray ++ caps) w fun e w' => ∃ v pv st' ρ' S', e = .returned v ∧ RepPV P ρ' st'.m w' S' pv v ∧ Rel P C ρ' S' st' a w' ∧ k pv st' = some y := by
  unfold exCall at h
  split at h <;> try (cases h; done)
  rename_i p q F
  split at h <;> try (cases h; done)
  rename_i x fz hx
  cases hF : F x with
  | none => rw [hF] at h; cases h
  | some z =>
    rw [hF] at h
    simp only [Option.bind_some] at h
    split at h <;> try (cases h; done)
    rename_i l m' hl
    obtain ⟨k1, k2⟩ := toArgs_sound r _ _ _ _ _ hx ha
    obtain ⟨S1, r1, hS1, hfz⟩ := r.stillS fz
    have hargs := k2 S1 hS1 (fun b hb => hfz b hb (by have := k1 b hb; unfold isRV at this; exact this))
    simp only [RepPV, RepLV, RepD] at hf
    obtain ⟨g, caps, e1, hbody, hcalls⟩ := hf
    refine ⟨g, caps, by simpa using e1, hbody, ?_⟩
    refine (hcalls w S1 (fun b hb => ⟨hS1 b hb, rfl⟩) r1.sb x vs z hargs hF).mono ?_
    rintro e w' ⟨hb, vs', rfl, hR⟩
    have r2 := r1.grow (S' := fun b => S1 b ∨ (w.heap.size ≤ b ∧ b < w'.heap.size)) hb (fun b h => .inl h) (fun b h => h)
    have hRR : ∀ (t : Ty) (y : Den t) (vs : List Value), RepA P t w' (fun b => S1 b ∨ (w.heap.size ≤ b ∧ b < w'.heap.size)) y vs → RepR P t [] w' (fun b => S1 b ∨ (w.heap.size ≤ b ∧ b < w'.heap.size)) w.heap.size y vs [] := by
      intro t
      induction t with
      | unit => intro y vs h; simp only [RepA] at h; simp only [RepR]; exact ⟨h, trivial⟩
      | pair t1 t2 _ ih =>
        intro y vs h
        simp only [RepA] at h
        obtain ⟨cs, vs', e, h1, h2⟩ := h
        cases t1 <;> (simp only [RepR]; exact ⟨rfl, cs, vs', e, h1, ih _ _ h2⟩)
      | _ => intro y vs h; simp only [RepA] at h
    obtain ⟨ρ', r3, ok, hall⟩ := ofRes_sound q [] id z l m' vs' [] w.heap.size r2 r.below.size hl (hRR _ _ _ hR) List.nodup_nil (fun g hg => by cases hg)
    exact ⟨_, _, _, ρ', _, rfl, ofResults_sound hall, r3, h⟩

theorem run_callFunc {g : Nat} (h : hasBody P g) (vs : Array Value) (w : World) : (callFunc g vs).run P w = .ok (.enter g vs) w := by
  obtain ⟨fn, h1, h2, h3⟩ := h
  have h4 : fn.body.isNone = false := by cases hb : fn.body <;> simp_all
  have h3' : fn.name ≠ "runtime.NumGoroutine" := by simpa using h3
  have h4' : fn.body ≠ none := by intro e; rw [e] at h2; cases h2
  simp [callFunc, h1, h3', h4']

theorem args_sound (hΓ : EnvOK P C.G Γ) (r : Rel P C ρ S st a w) : ∀ l : List Operand, All2 (RepPV P ρ st.m w S) (l.map (operand Γ st)) (l.map a.eval)
  | [] => trivial
  | x :: l => ⟨operand_sound hΓ r x, args_sound hΓ r l⟩

theorem ex_call {c : Call} (hΓ : EnvOK P C.G Γ) (r : Rel P C ρ S st a w) (ho : o.op = .call c) (h : exOp Γ id o st k = some y) : OpGoal P C o a w k y := by
  obtain ⟨callee, args, ts⟩ := c
  simp only [exOp, ho] at h
  cases callee with
  | builtin b => exact ex_builtin hΓ r ho h
  | invoke x m => cases h
  | value f =>
    have goal : ∀ g caps, a.eval f = .func (.func g) #[] caps → hasBody P g → (Calls P g ((args.map a.eval) ++ caps) w fun e w' => ∃ v pv st' ρ' S', e = .returned v ∧ RepPV P ρ' st'.m w' S' pv v ∧ Rel P C ρ' S' st' a w' ∧ k pv st' = some y) → OpGoal P C o a w k y := by
      intro g caps hf hb hc next Q hn
      have hrun : (execOp a.eval o).run P w = .ok (.enter g ((args.map a.eval) ++ caps)) w := by
        simp only [execOp, ho, resolve, hf, Deferred.ofValue, Sem.run_bind, Sem.run_pure, Result.andThen_ok, invoke, Array.append_empty, Array.empty_append, List.append_nil]
        exact run_callFunc hb _ w
      unfold Oper.wp
      rw [hrun, Oper.upon_enter]
      refine hc.mono ?_
      rintro e w' ⟨v, pv, st', ρ', S', rfl, h1, h2, h3⟩
      exact hn v pv st' ρ' S' w' h1 h2 h3
    have hargs := args_sound hΓ r args.toList
    have hmap : (args.toList.map a.eval).toArray = args.map a.eval := by rw [← Array.toList_map, Array.toArray_toList]
    have other : exCall Γ id (operand Γ st f) (args.toList.map (operand Γ st)) st k = some y → OpGoal P C o a w k y := by
      intro h
      obtain ⟨g, caps, h1, h2, h3⟩ := exCall_sound hΓ r h (operand_sound hΓ r f) hargs
      rw [hmap] at h3
      exact goal g caps h1 h2 h3
    cases f with
    | func g =>
      obtain ⟨h1, h2⟩ := exFunc_sound hΓ r h hargs
      rw [hmap] at h2
      exact goal g #[] rfl h1 (by rw [Array.append_empty]; exact h2)
    | _ => exact other h

theorem exOp_sound (hΓ : EnvOK P C.G Γ) (r : Rel P C ρ S st a w) (h : exOp Γ id o st k = some y) : OpGoal P C o a w k y := by
  cases ho : o.op with
  | move x => exact ex_move hΓ r ho h
  | assign x => exact ex_assign hΓ r ho h
  | pick c x z => exact ex_pick hΓ r ho h
  | alloc e => exact ex_alloc hΓ r ho h
  | box e x => exact ex_box hΓ r ho h
  | load t x => exact ex_load hΓ r ho h
  | store t x z => exact ex_store hΓ r ho h
  | binOp op t x z q => exact ex_binOp hΓ r ho h
  | unOp op t x => exact ex_unOp hΓ r ho h
  | convert s d x => exact ex_convert hΓ r ho h
  | build t parts => exact ex_build hΓ r ho h
  | buildSlice t n parts => exact ex_buildSlice hΓ r ho h
  | makeSlice t lo co => exact ex_make hΓ r ho h
  | slice t x lo hi mx => exact ex_slice hΓ r ho h
  | fieldAddr t x f => exact ex_field hΓ r ho h
  | indexAddr t x i => exact ex_indexAddr hΓ r ho h
  | index t x i => exact ex_index hΓ r ho h
  | field t x f => exact ex_fieldOf hΓ r ho h
  | extract x i => exact ex_extract hΓ r ho h
  | makeFunc f fi ca => exact ex_makeFunc hΓ r ho h
  | range t x => exact ex_range hΓ r ho h
  | next x q => exact ex_next hΓ r ho h
  | call c => exact ex_call hΓ r ho h
  | _ => simp only [exOp, ho] at h; cases h
end Go.PM

/-! PmGuard -/
namespace Go.PM
open Go.RowKit
set_option linter.unusedVariables false
set_option linter.unusedSimpArgs false
variable {P : Program} {Γ : Env} {C : Ctx} {ρ : Nat → Value} {S : Nat → Prop} {st : St} {a : Act} {w : World}
variable {R : Type} {y : R}

theorem Rel.setT (r : Rel P C ρ S st a w) {t' : Nat → PV} (h : ∀ d, RepPV P ρ st.m w S (t' d) (a.tmps.getD d undef)) : Rel P C ρ S { st with t := t' } a w :=
  ⟨r.defers, r.below, r.sb, r.s0, r.s1, h, r.sz, r.mem, r.inj, r.out, r.loc, r.gl, r.mz⟩

theorem Rel.put (r : Rel P C ρ S st a w) {d : Nat} {pv : PV} {v : Value} (hd : d < st.n) (h : RepPV P ρ st.m w S pv v) : Rel P C ρ S { st with t := upd st.t d pv } (a.put (some d) v) w := by
  refine ⟨r.defers, r.below, r.sb, r.s0, r.s1, fun e => ?_, by simpa [Act.put] using r.sz, r.mem, r.inj, r.out, r.loc, r.gl, r.mz⟩
  have hsz := r.sz
  show RepPV P ρ st.m w S (upd st.t d pv e) _
  by_cases he : e = d
  · subst he
    rw [upd_same]
    have : (a.put (some e) v).tmps.getD e undef = v := by simp [Act.put, Array.getD, hsz, hd]
    rw [this]; exact h
  · rw [upd_other _ _ he]
    have : (a.put (some d) v).tmps.getD e undef = a.tmps.getD e undef := by
      simp [Act.put, Array.getElem?_setIfInBounds_ne (Ne.symm he)]
    rw [this]; exact r.tm e

theorem put_sound {dst : Option Tmp} {pv : PV} {v : Value} {k : St → Option R} {K : Act → World → Prop} (r : Rel P C ρ S st a w) (hv : RepPV P ρ st.m w S pv v) (h : put st dst pv k = some y)
    (hn : ∀ ρ' S' st' a' w', Rel P C ρ' S' st' a' w' → k st' = some y → K a' w') : K (a.put dst v) w := by
  unfold put at h
  cases dst with
  | none => exact hn _ _ _ _ _ r h
  | some d =>
    simp only at h
    obtain ⟨hd, h⟩ := bif_none h
    exact hn _ _ _ _ _ (r.put (by simpa using hd) hv) h

theorem upd_self {α : Type} (f : Nat → α) (i : Nat) : upd f i (f i) = f := by
  funext j
  by_cases e : j = i
  · subst e; exact upd_same _ _ _
  · exact upd_other _ _ e

theorem exGuard_sound (hΓ : EnvOK P C.G Γ) (r : Rel P C ρ S st a w) {ops : Array Oper} {Q : Exit → Act → World → Prop} {id i : Nat} {o : Oper} {k : St → Option R} {K : Act → World → Prop} (hi : ops[i]? = some o)
    (h : exGuard Γ ops id o st k = some y) (hn : ∀ ρ' S' st' a' w', Rel P C ρ' S' st' a' w' → k st' = some y → K a' w') : wpOp P ops Q i K a w := by
  have run : exOp Γ id o st (fun v st' => put st' o.dst v k) = some y → o.wp P a w K Q := fun h =>
    exOp_sound hΓ r h K Q fun v pv st' ρ' S' w' h1 h2 h3 => put_sound h2 h1 h3 hn
  have skip : put st o.dst .no k = some y → K (a.put o.dst undef) w := fun h => put_sound r (pv := .no) rfl h hn
  unfold wpOp
  rw [hi]
  simp only
  unfold exGuard at h
  cases hg : o.guard with
  | none =>
    rw [hg] at h
    simp only at h
    rw [if_pos (by simp [Region.wanted, hg])]
    exact .inl (run h)
  | some jw =>
    obtain ⟨j, want⟩ := jw
    rw [hg] at h
    simp only at h
    split at h <;> try (cases h; done)
    rename_i oj hoj
    split at h <;> try (cases h; done)
    rename_i d hd
    split at h <;> try (cases h; done)
    rotate_left
    · rename_i hb
      have htm := r.tm d
      rw [hb] at htm
      simp only [RepPV] at htm
      have hw : Region.wanted o (yielded ops a.tmps) = false := by
        simp only [Region.wanted, hg, yielded, hoj, Option.bind_some, hd]
        cases hq : a.tmps[d]? with
        | none => rfl
        | some u =>
          rw [Array.getD_eq_getD_getElem?, hq] at htm
          simp only [Option.getD_some] at htm
          subst htm
          rfl
      rw [hw, if_neg (by simp)]
      exact skip h
    rename_i b hb
    have htm := r.tm d
    rw [hb] at htm
    simp only [RepPV, RepLV] at htm
    have hget : a.tmps[d]? = some (.bool b) := by
      rw [Array.getD_eq_getD_getElem?] at htm
      cases hq : a.tmps[d]? with
      | none => rw [hq] at htm; cases htm
      | some u => rw [hq] at htm; simpa using htm
    have hw : Region.wanted o (yielded ops a.tmps) = (b == want) := by
      simp only [Region.wanted, hg, yielded, hoj, Option.bind_some, hd, hget]
      cases b <;> cases want <;> rfl
    rw [hw]
    have est : ∀ v, b = v → ({ st with t := upd st.t d (.one (.bool v)) } : St) = st := by
      intro v hv
      subst hv
      rw [← hb, upd_self]
    cases want with
    | true =>
      simp only at h
      cases b with
      | true =>
        simp only [cond_true] at h
        rw [est true rfl] at h
        rw [if_pos (by rfl)]
        exact .inl (run h)
      | false =>
        simp only [cond_false] at h
        rw [est false rfl] at h
        rw [if_neg (by simp)]
        exact skip h
    | false =>
      simp only at h
      cases b with
      | true =>
        simp only [cond_true] at h
        rw [est true rfl] at h
        rw [if_neg (by simp)]
        exact skip h
      | false =>
        simp only [cond_false] at h
        rw [est false rfl] at h
        rw [if_pos (by rfl)]
        exact .inl (run h)

theorem exOps_sound (hΓ : EnvOK P C.G Γ) {ops : Array Oper} {Q : Exit → Act → World → Prop} {nx : Nat} {k : St → Option R}
    (hn : ∀ ρ' S' st' a' w', Rel P C ρ' S' st' a' w' → k st' = some y → Q .normal a' w') : ∀ (l : List Oper) (i : Nat) {ρ S st a w}, ops.toList.drop i = l → Rel P C ρ S st a w → exOps Γ ops nx l i st k = some y →
      wpOps P ops Q (List.range' i l.length) a w := by
  intro l
  induction l with
  | nil => intro i ρ S st a w _ r h; exact hn _ _ _ _ _ r h
  | cons o l ih =>
    intro i ρ S st a w hd r h
    rw [List.length_cons, List.range'_succ, wpOps_cons]
    have hi : ops[i]? = some o := by
      have : ops.toList[i]? = some o := by
        have h0 : (ops.toList.drop i)[0]? = ops.toList[i + 0]? := List.getElem?_drop
        rw [Nat.add_zero] at h0
        rw [← h0, hd]; rfl
      simpa using this
    have hd' : ops.toList.drop (i + 1) = l := by rw [← List.drop_drop, hd]; rfl
    exact exGuard_sound hΓ r hi h fun ρ' S' st' a' w' r' h' => ih (i + 1) hd' r' h'

end Go.PM

/-! PmMask -/
namespace Go.PM
open Go.RowKit
set_option linter.unusedVariables false
set_option linter.unusedSimpArgs false
variable {P : Program} {Γ : Env} {C : Ctx} {ρ : Nat → Value} {S : Nat → Prop} {st : St} {a : Act} {w : World}
variable {R : Type} {y : R}

/-- The state at a loop's head, while it is being written. -/
structure MInv (P : Program) (C : Ctx) (ρ ρn : Nat → Value) (S : Nat → Prop) (so sn : St) (a : Act) (w : World) : Prop where
  ro : Rel P C ρ S so a w
  rn : Rel P C ρn S sn a w
  dj : ∀ b b' g, (sn.m b).live = true → (so.m b').live = true → vb (ρn b) g → ¬ vb (ρ b') g

variable {ρn : Nat → Value} {so sn : St}

/-- More is read for good: what is told to be so is not the new state's own. -/
theorem Rel.more (r : Rel P C ρ S st a w) {S' : Nat → Prop} (h : ∀ k, S k → S' k) (hb : ∀ b, S' b → b < w.heap.size) (h1 : ∀ b, S' b → C.S0 b ∨ C.w0.heap.size ≤ b ∨ C.mx b)
    (ho : ∀ b, (st.m b).live = true → ∀ g, vb (ρ b) g → ¬ S' g) : Rel P C ρ S' st a w :=
  Rel.step (m' := st.m) r (fun b hb => ⟨h b hb, rfl⟩) r.below hb h1 (fun b => Ok1.same rfl rfl) (fun b => RepBlk.mono (fun b hb => ⟨h b hb, rfl⟩) (r.mem b) (fun _ _ _ => rfl)) r.inj ho r.loc r.mz

theorem MInv.still (I : MInv P C ρ ρn S so sn a w) (fz : List Nat) : ∃ S' : Nat → Prop, MInv P C ρ ρn S' { so with m := Go.PM.still fz so.m } sn a w ∧ (∀ k, S k → S' k) ∧
    (∀ b ∈ fz, isRV (so.m b) → ∀ g, vb (ρ b) g → S' g) := by
  obtain ⟨S', r', h1, h2, h3⟩ := I.ro.stillS' fz
  refine ⟨S', ⟨r', I.rn.more h1 r'.sb r'.s1 ?_, ?_⟩, h1, fun b hb hk => h2 b hb (by unfold isRV at hk; exact hk)⟩
  · intro b hl g hg hS
    rcases h3 g hS with h | ⟨b', hl', hg'⟩
    · exact I.rn.out b hl g hg h
    · exact I.dj b b' g hl hl' hg hg'
  · intro b b' g hl hl' hg
    refine I.dj b b' g hl ?_ hg
    rw [show ({ so with m := Go.PM.still fz so.m } : St).m b' = Go.PM.still fz so.m b' from rfl, still_at] at hl'
    split at hl'
    · cases hm : so.m b' <;> rw [hm] at hl' <;> first | rfl | (cases hl'; done) | exact hl'
    · exact hl'

theorem dead_ok (ρ : Nat → Value) {m : Nat → Blk} {b : Nat} (hb : m b ≠ .free) : ∀ q, Ok1 ρ ρ m (upd m b .dead) q := by
  intro q
  by_cases e : q = b
  · subst e; unfold Ok1; rw [upd_same]; cases m q <;> trivial
  · exact Ok1.same (upd_other _ _ e) rfl

/-- A live block goes over to the new state. -/
theorem MInv.move (I : MInv P C ρ ρn S so sn a w) {b id : Nat} {blk : Blk} (hl : (so.m b).live = true) (hf : sn.m id = .free) (hblk : RepBlk P C (upd ρn id (ρ b)) (upd sn.m id blk) w S id) :
    MInv P C ρ (upd ρn id (ρ b)) S { so with m := upd so.m b .dead } { sn with m := upd sn.m id blk } a w ∧ (∀ q, Ok1 ρ ρ so.m (upd so.m b .dead) q) ∧ ∀ q, Ok1 ρn (upd ρn id (ρ b)) sn.m (upd sn.m id blk) q := by
  have hb0 : so.m b ≠ .free := by intro e; rw [e] at hl; cases hl
  obtain ⟨r1, ok1⟩ := I.rn.adopt (id := id) (blk := blk) (v := ρ b) hf (fun g hg => ⟨⟨I.ro.out b hl g hg, fun q hq hg' => I.dj q b g hq hl hg' hg⟩, I.ro.loc b hl g hg⟩) hblk
  refine ⟨⟨I.ro.kill b hb0, r1, ?_⟩, dead_ok ρ hb0, ok1⟩
  intro q q' g hq hq' hg
  have e' : q' ≠ b := by intro e; subst e; rw [show ({ so with m := upd so.m q' .dead } : St).m q' = .dead from upd_same _ _ _] at hq'; cases hq'
  have hq'' : (so.m q').live = true := by rwa [show ({ so with m := upd so.m b .dead } : St).m q' = so.m q' from upd_other _ _ e'] at hq'
  by_cases e : q = id
  · subst e
    rw [upd_same] at hg
    exact I.ro.inj b q' (Ne.symm e') hl hq'' g hg
  · rw [upd_other _ _ e] at hg
    rw [show ({ sn with m := upd sn.m id blk } : St).m q = sn.m q from upd_other _ _ e] at hq
    exact I.dj q q' g hq hq'' hg

theorem dead_ok' (ρn : Nat → Value) (v : Value) {m : Nat → Blk} {b : Nat} {blk : Blk} (hb : m b = .held) (hl : blk.live = true) : ∀ q, Ok1 ρn (upd ρn b v) m (upd m b blk) q := by
  intro q
  by_cases e : q = b
  · subst e; unfold Ok1; rw [hb]; cases upd m q blk q <;> trivial
  · exact Ok1.same (upd_other _ _ e) (upd_other _ _ e)

/-- The window's row goes over. -/
theorem MInv.move0 (I : MInv P C ρ ρn S so sn a w) {blk : Blk} (hl : (so.m 0).live = true) (hf : sn.m 0 = .held) (hbl : blk.live = true) (hblk : RepBlk P C (upd ρn 0 (ρ 0)) (upd sn.m 0 blk) w S 0) :
    MInv P C ρ (upd ρn 0 (ρ 0)) S { so with m := upd so.m 0 .dead } { sn with m := upd sn.m 0 blk } a w ∧ (∀ q, Ok1 ρ ρ so.m (upd so.m 0 .dead) q) ∧ ∀ q, Ok1 ρn (upd ρn 0 (ρ 0)) sn.m (upd sn.m 0 blk) q := by
  have hb0 : so.m 0 ≠ .free := by intro e; rw [e] at hl; cases hl
  have ok1 := dead_ok' ρn (ρ 0) (m := sn.m) hf hbl
  have r1 : Rel P C (upd ρn 0 (ρ 0)) S { sn with m := upd sn.m 0 blk } a w := by
    refine Rel.step I.rn (Stab.refl _ _) I.rn.below I.rn.sb I.rn.s1 ok1 ?_ ?_ ?_ ?_ ?_
    · intro b
      by_cases e : b = 0
      · subst e; exact hblk
      · exact RepBlk.step ok1 (Stab.refl _ _) (upd_other _ _ e) (upd_other _ _ e) (fun _ _ _ => rfl) (I.rn.mem b)
    · intro b b' hne hl1 hl' g hg hg'
      by_cases e : b = 0
      · subst e
        have hne' : b' ≠ 0 := fun h => hne h.symm
        rw [upd_same] at hg
        rw [upd_other _ _ hne'] at hl' hg'
        exact I.dj b' 0 g hl' hl hg' hg
      · rw [upd_other _ _ e] at hl1 hg
        by_cases e' : b' = 0
        · subst e'
          rw [upd_same] at hg'
          exact I.dj b 0 g hl1 hl hg hg'
        · rw [upd_other _ _ e'] at hl' hg'
          exact I.rn.inj b b' hne hl1 hl' g hg hg'
    · intro b hlb g hg h
      by_cases e : b = 0
      · subst e
        rw [upd_same] at hg
        exact I.ro.out 0 hl g hg h
      · rw [upd_other _ _ e] at hlb hg
        exact I.rn.out b hlb g hg h
    · intro b hlb g hg
      by_cases e : b = 0
      · subst e
        rw [upd_same] at hg
        exact I.ro.loc 0 hl g hg
      · rw [upd_other _ _ e] at hlb hg
        exact I.rn.loc b hlb g hg
    · intro u hu
      rw [upd_same, upd_same]
      exact ⟨(by intro e; rw [e] at hbl; cases hbl), (I.ro.mz u hu).2⟩
  refine ⟨⟨I.ro.kill 0 hb0, r1, ?_⟩, dead_ok ρ hb0, ok1⟩
  intro q q' g hq hq' hg
  have e' : q' ≠ 0 := by
    intro e; subst e
    have hq' : (upd so.m 0 Blk.dead 0).live = true := hq'
    rw [upd_same] at hq'; cases hq'
  have hq'' : (so.m q').live = true := by rwa [show ({ so with m := upd so.m 0 .dead } : St).m q' = so.m q' from upd_other _ _ e'] at hq'
  by_cases e : q = 0
  · subst e
    rw [upd_same] at hg
    exact I.ro.inj 0 q' (Ne.symm e') hl hq'' g hg
  · rw [upd_other _ _ e] at hg
    rw [show ({ sn with m := upd sn.m 0 blk } : St).m q = sn.m q from upd_other _ _ e] at hq
    exact I.dj q q' g hq hq'' hg

/-- What going from one head-state to a further one keeps. -/
structure MStep (ρ ρn ρn' : Nat → Value) (S S' : Nat → Prop) (so so' sn sn' : St) : Prop where
  s : ∀ k, S k → S' k
  o : ∀ b, Ok1 ρ ρ so.m so'.m b
  n : ∀ b, Ok1 ρn ρn' sn.m sn'.m b

theorem Ok1.trans {ρ ρ' ρ'' : Nat → Value} {m m' m'' : Nat → Blk} {b : Nat} (h : Ok1 ρ ρ' m m' b) (k : Ok1 ρ' ρ'' m' m'' b) : Ok1 ρ ρ'' m m'' b := by
  unfold Ok1 at *
  cases h0 : m b <;> cases h1 : m' b <;> cases h2 : m'' b <;> first
    | (rw [h0, h1] at h; rw [h1, h2] at k
       refine ⟨k.1.trans h.1, h.2.1.trans k.2.1, h.2.2.1.trans k.2.2.1, Nat.le_trans h.2.2.2.1 k.2.2.2.1, fun hu ho => ?_⟩
       have e1 := Nat.le_antisymm h.2.2.2.1 (hu ▸ k.2.2.2.1)
       obtain ⟨a1, a2, a3⟩ := k.2.2.2.2 (by omega) ho
       obtain ⟨b1, b2, b3⟩ := h.2.2.2.2 e1 a1
       exact ⟨b1, fun i => (a2 i).trans (b2 i), fun i => (a3 i).trans (b3 i)⟩)
    | (simp_all; done)

theorem MStep.old {ρn' : Nat → Value} {S' : Nat → Prop} {so' sn' : St} (h : MStep ρ ρn ρn' S S' so so' sn sn') {x : LV} {v : Value} (hx : RepLV P ρ so.m w S x v) : RepLV P ρ so'.m w S' x v :=
  RepLV.step h.o (RepLV.mono (fun b hb => ⟨h.s b hb, rfl⟩) hx)
theorem MStep.new {ρn' : Nat → Value} {S' : Nat → Prop} {so' sn' : St} (h : MStep ρ ρn ρn' S S' so so' sn sn') {x : LV} {v : Value} (hx : RepLV P ρn sn.m w S x v) : RepLV P ρn' sn'.m w S' x v :=
  RepLV.step h.n (RepLV.mono (fun b hb => ⟨h.s b hb, rfl⟩) hx)
theorem MStep.refl : MStep ρ ρn ρn S S so so sn sn := ⟨fun _ h => h, fun _ => Ok1.same rfl rfl, fun _ => Ok1.same rfl rfl⟩
theorem MStep.trans {ρn1 ρn2 : Nat → Value} {S1 S2 : Nat → Prop} {so1 so2 sn1 sn2 : St} (h : MStep ρ ρn ρn1 S S1 so so1 sn sn1) (k : MStep ρ ρn1 ρn2 S1 S2 so1 so2 sn1 sn2) : MStep ρ ρn ρn2 S S2 so so2 sn sn2 :=
  ⟨fun b hb => k.s b (h.s b hb), fun b => (h.o b).trans (k.o b), fun b => (h.n b).trans (k.n b)⟩

theorem still_ok (ρ : Nat → Value) (m : Nat → Blk) (fz : List Nat) : ∀ q, Ok1 ρ ρ m (Go.PM.still fz m) q := by
  intro q
  by_cases e : q ∈ fz
  · unfold Ok1
    rw [still_at, if_pos e]
    cases m q <;> simp [Blk.still]
  · exact Ok1.same (by rw [still_at, if_neg e]) rfl

theorem maskC_sound {sh : ShC} {x : LV} {v : Value} {G : Prop} {m nm : Nat → Blk} {k : LV → (Nat → Blk) → (Nat → Blk) → Option R} (I : MInv P C ρ ρn S { so with m := m } { sn with m := nm } a w) (hx : RepLV P ρ m w S x v)
    (h : maskC m sh x nm k = some y)
    (hk : ∀ ρn' S' m' nm' x', MInv P C ρ ρn' S' { so with m := m' } { sn with m := nm' } a w → MStep ρ ρn ρn' S S' { so with m := m } { so with m := m' } { sn with m := nm } { sn with m := nm' } →
      RepLV P ρn' nm' w S' x' v → k x' m' nm' = some y → G) : G := by
  unfold maskC at h
  split at h
  · refine hk ρn S m nm _ I MStep.refl ?_ h
    simpa only [RepLV] using hx
  · refine hk ρn S m nm _ I MStep.refl ?_ h
    simpa only [RepLV] using hx
  · refine hk ρn S m nm _ I MStep.refl ?_ h
    simpa only [RepLV] using hx
  · refine hk ρn S m nm _ I MStep.refl ?_ h
    simpa only [RepLV] using hx
  · refine hk ρn S m nm _ I MStep.refl ?_ h
    simpa only [RepLV] using hx
  · rename_i e
    split at h <;> try (cases h; done)
    rename_i xs fz rest hto
    obtain ⟨l1, vs1, vs2, e1, l2, l3⟩ := toDen_sound I.ro (.sl e) [x] [v] xs fz rest hto ⟨hx, trivial⟩
    obtain ⟨S1, I1, hS1, hf1⟩ := I.still fz
    have hD := l3 S1 hS1 (fun b hb => hf1 b hb (l1 b hb))
    have hl := RepD.length hD
    have e2 : vs1 = [v] := by
      match vs1, hl, e1 with
      | [u], _, e1 => simp at e1; rw [e1.1]
    subst e2
    exact hk _ _ _ _ (.sl e xs) I1 ⟨hS1, still_ok ρ m fz, fun _ => Ok1.same rfl rfl⟩ hD h
  · rename_i id tid e
    split at h <;> try (cases h; done)
    rename_i hf
    simp only [RepLV] at hx
    subst hx
    obtain ⟨r1, ok1⟩ := I.rn.adopt (id := id) (blk := .row true tid e []) (v := .slice none 0 0) hf (fun g hg => (by cases hg)) (by
      unfold RepBlk
      rw [upd_same, upd_same]
      exact ⟨[], ⟨by simp, .inl ⟨rfl, rfl⟩⟩, by simp [Es], fun h => by cases h⟩)
    refine hk _ _ _ _ _ ⟨I.ro, r1, ?_⟩ ⟨fun _ h => h, fun _ => Ok1.same rfl rfl, ok1⟩ ?_ h
    · intro q q' g hq hq' hg
      by_cases e : q = id
      · subst e; rw [upd_same] at hg; cases hg
      · rw [upd_other _ _ e] at hg
        rw [show ({ sn with m := upd nm id (.row true tid _ []) } : St).m q = nm q from upd_other _ _ e] at hq
        exact I.dj q q' g hq hq' hg
    · simp only [RepLV, upd_same]
      exact ⟨rfl, trivial⟩
  · rename_i id tid e b
    split at h <;> try (cases h; done)
    · rename_i e0 e' xs hm hf
      obtain ⟨he0, h⟩ := bif_none h
      have he0 := Nat.eq_of_beq_eq_true he0
      subst he0
      split at h <;> try (cases h; done)
      rename_i ys hc
      obtain ⟨he, hc⟩ := castList hc
      subst he; subst hc
      simp only [RepLV, hm] at hx
      have hb := I.ro.mem b
      unfold RepBlk at hb
      rw [show ({ so with m := m } : St).m b = _ from hm] at hb
      obtain ⟨cells, h1, h2, _⟩ := hb
      obtain ⟨I1, o1, n1⟩ := I.move (b := b) (id := id) (blk := .row true e0 e' xs) (by rw [show ({ so with m := m } : St).m b = _ from hm]; rfl) hf (by
        unfold RepBlk
        rw [upd_same, upd_same]
        exact ⟨cells, h1, h2, fun h => by cases h⟩)
      refine hk _ _ _ _ _ I1 ⟨fun _ h => h, o1, n1⟩ ?_ h
      simp only [RepLV, upd_same]
      exact hx
    · rename_i e0 e' xs i j hm hf
      obtain ⟨he0, h1⟩ := bif_none h
      clear h
      have he0 := Nat.eq_of_beq_eq_true he0
      subst he0
      split at h1 <;> try (cases h1; done)
      rename_i ys y0 fz rest hc hto
      obtain ⟨hbf, h2⟩ := bif_none' h1
      clear h1
      obtain ⟨he, hc⟩ := castList hc
      subst he; subst hc
      have hbf : b ∉ fz := by simpa using hbf
      simp only [RepLV, hm] at hx
      have hb := I.ro.mem b
      unfold RepBlk at hb
      rw [show ({ so with m := m } : St).m b = _ from hm] at hb
      obtain ⟨s1, s2, cells, h3, h4, h5, h6, v0, v1, v2, v3⟩ := hb
      obtain ⟨l1, vs1, vs2, e1, l2, l3⟩ := toDen_sound I.ro e' [.own j] [v0] y0 fz rest hto ⟨by simp only [RepLV]; refine ⟨v2, ?_⟩; revert v3; show (match m j with | .dead => True | .row .. => v0 = ρ j | .hole .. => v0 = ρ j | _ => False) → _; cases m j <;> simp only <;> intro q <;> first | trivial | exact q | exact q.elim, trivial⟩
      obtain ⟨S1, I1, hS1, hf1⟩ := I.still fz
      have hD := l3 S1 hS1 (fun b hb => hf1 b hb (l1 b hb))
      have hl := RepD.length hD
      rw [s1] at hl
      have e2 : vs1 = [v0] := by
        match vs1, hl, e1 with
        | [u], _, e1 => simp at e1; rw [e1.1]
      subst e2
      have hms : Go.PM.still fz m b = .hole e0 e' xs i j := by rw [still_at, if_neg hbf, hm]
      obtain ⟨I2, o2, n2⟩ := I1.move (b := b) (id := id) (blk := .row true e0 e' (xs.set i y0)) (by rw [show ({ so with m := Go.PM.still fz m } : St).m b = _ from hms]; rfl) hf (by
        unfold RepBlk
        rw [upd_same, upd_same]
        refine ⟨cells, by rw [List.length_set]; exact h3, Es.ofOnes (by rw [List.length_set]; exact h4) fun p x hp => ?_, fun h => by cases h⟩
        by_cases hpi : p = i
        · subst hpi
          rw [List.getElem?_set_self h5] at hp
          cases hp
          exact ⟨v0, v1, hD⟩
        · rw [List.getElem?_set_ne (fun e => hpi e.symm)] at hp
          obtain ⟨u, u1, u2⟩ := h6 p x hpi hp
          exact ⟨u, u1, RepD.mono (fun b hb => ⟨hS1 b hb, rfl⟩) u2⟩)
      refine hk _ _ _ _ _ I2 ((MStep.mk hS1 (still_ok ρ m fz) fun _ => Ok1.same rfl rfl : MStep ρ ρn ρn S S1 { so with m := m } { so with m := Go.PM.still fz m } { sn with m := nm } { sn with m := nm }).trans ⟨fun _ h => h, o2, n2⟩) ?_ h2
      simp only [RepLV, upd_same]
      exact hx
  · rename_i id t1 t2 e b
    split at h <;> try (cases h; done)
    rename_i a1 a2 e' xs u hm hf
    obtain ⟨he0, h1⟩ := bif_none h
    clear h
    simp only [Bool.and_eq_true] at he0
    have e1 := Nat.eq_of_beq_eq_true he0.1
    have e2 := Nat.eq_of_beq_eq_true he0.2
    subst e1; subst e2
    split at h1 <;> try (cases h1; done)
    rename_i ys hc
    obtain ⟨he, hc⟩ := castTy_eq _ _ _ _ _ hc
    subst he; subst hc
    simp only [RepLV, hm] at hx
    have hb := I.ro.mem b
    unfold RepBlk at hb
    rw [show ({ so with m := m } : St).m b = _ from hm] at hb
    obtain ⟨v0, hs, k1, k2, _⟩ := hb
    obtain ⟨I1, o1, n1⟩ := I.move (b := b) (id := id) (blk := .deep true a1 a2 e' xs none 0) (by rw [show ({ so with m := m } : St).m b = _ from hm]; rfl) hf (by
      unfold RepBlk
      rw [upd_same, upd_same]
      exact ⟨v0, hs, k1, k2, fun h => by cases h⟩)
    refine hk _ _ _ _ _ I1 ⟨fun _ h => h, o1, n1⟩ ?_ h1
    simp only [RepLV, upd_same]
    exact hx
  · rename_i off len
    split at h <;> try (cases h; done)
    rename_i e0 e xs hm hf
    simp only [RepLV, hm] at hx
    have hb := I.ro.mem 0
    unfold RepBlk at hb
    rw [show ({ so with m := m } : St).m 0 = _ from hm] at hb
    obtain ⟨cells, h1, h2, _⟩ := hb
    obtain ⟨I1, o1, n1⟩ := I.move0 (blk := .row true e0 e xs) (by rw [show ({ so with m := m } : St).m 0 = _ from hm]; rfl) hf rfl (by
      unfold RepBlk
      rw [upd_same]
      rw [upd_same]
      exact ⟨cells, h1, h2, fun h => by cases h⟩)
    refine hk _ _ _ _ _ I1 ⟨fun _ h => h, o1, n1⟩ ?_ h
    simp only [RepLV, upd_same]
    exact hx
  · rename_i id b
    split at h <;> try (cases h; done)
    rename_i s pos hm hf
    simp only [RepLV, hm] at hx
    have hb := I.ro.mem b
    unfold RepBlk at hb
    rw [show ({ so with m := m } : St).m b = _ from hm] at hb
    obtain ⟨I1, o1, n1⟩ := I.move (b := b) (id := id) (blk := .iter s pos) (by rw [show ({ so with m := m } : St).m b = _ from hm]; rfl) hf (by
      unfold RepBlk
      rw [upd_same, upd_same]
      exact hb)
    refine hk _ _ _ _ _ I1 ⟨fun _ h => h, o1, n1⟩ ?_ h
    simp only [RepLV, upd_same]
    exact hx
  · cases h

theorem maskCs_sound : ∀ (shs : List ShC) (xs : List LV) (vs : List Value) {G : Prop} {ρn : Nat → Value} {S : Nat → Prop} {m nm : Nat → Blk} {k : List LV → (Nat → Blk) → (Nat → Blk) → Option R}, MInv P C ρ ρn S { so with m := m } { sn with m := nm } a w → All2 (RepLV P ρ m w S) xs vs →
    maskCs shs xs m nm k = some y →
    (∀ ρn' S' m' nm' xs', MInv P C ρ ρn' S' { so with m := m' } { sn with m := nm' } a w → MStep ρ ρn ρn' S S' { so with m := m } { so with m := m' } { sn with m := nm } { sn with m := nm' } →
      All2 (RepLV P ρn' nm' w S') xs' vs → k xs' m' nm' = some y → G) → G := by
  intro shs
  induction shs with
  | nil =>
    intro xs vs G ρn S m nm k I hx h hk
    match xs, vs, hx with
    | [], [], _ => exact hk ρn S m nm [] I MStep.refl trivial h
    | _ :: _, _ :: _, _ => simp only [maskCs] at h; cases h
  | cons s shs ih =>
    intro xs vs G ρn S m nm k I hx h hk
    match xs, vs, hx with
    | [], [], _ => simp only [maskCs] at h; cases h
    | x :: xs, v :: vs, ⟨h1, h2⟩ =>
      simp only [maskCs] at h
      refine maskC_sound I h1 h fun ρn1 S1 m1 nm1 x1 I1 M1 k1 h => ?_
      refine ih xs vs I1 (All2.mono (fun _ _ h => M1.old h) h2) h fun ρn2 S2 m2 nm2 xs2 I2 M2 k2 h => ?_
      exact hk _ _ _ _ (x1 :: xs2) I2 (M1.trans M2) ⟨M2.new k1, k2⟩ h

theorem maskAll_sound : ∀ (l : List (Nat × Sh)) {G : Prop} {ρn : Nat → Value} {S : Nat → Prop} {t : Nat → PV} {m : Nat → Blk} {nt : Nat → PV} {nm : Nat → Blk} {k : (Nat → PV) → (Nat → Blk) → Option R},
    MInv P C ρ ρn S { so with t := t, m := m } { sn with t := nt, m := nm } a w → maskAll l t m nt nm k = some y →
    (∀ ρn' S' nt' nm', Rel P C ρn' S' { sn with t := nt', m := nm' } a w → k nt' nm' = some y → G) → G := by
  intro l
  induction l with
  | nil => intro G ρn S t m nt nm k I h hk; exact hk _ _ _ _ I.rn h
  | cons c l ih =>
    intro G ρn S t m nt nm k I h hk
    obtain ⟨i, sh⟩ := c
    cases sh with
    | c sh =>
      simp only [maskAll] at h
      split at h <;> try (cases h; done)
      rename_i x hx
      have htm := I.ro.tm i
      rw [show ({ so with t := t, m := m } : St).t i = _ from hx] at htm
      refine maskC_sound (so := { so with t := t }) (sn := { sn with t := nt }) I htm h fun ρn1 S1 m1 nm1 x1 I1 M1 k1 h => ?_
      refine ih (nt := upd nt i (.one x1)) (t := t) (m := m1) (nm := nm1) ⟨I1.ro, I1.rn.setT fun d => ?_, I1.dj⟩ h hk
      by_cases e : d = i
      · subst e; rw [upd_same]; exact k1
      · rw [upd_other _ _ e]; exact I1.rn.tm d
    | agg u =>
      simp only [maskAll] at h
      split at h <;> try (cases h; done)
      rename_i cs hx
      split at h <;> try (cases h; done)
      rename_i x fz hto
      have htm := I.ro.tm i
      rw [show ({ so with t := t, m := m } : St).t i = _ from hx] at htm
      obtain ⟨vs, hv, e0⟩ := htm
      obtain ⟨l1, vs1, vs2, e1, l2, l3⟩ := toDen_sound I.ro u cs vs x fz [] hto hv
      have : vs2 = [] := by
        cases vs2 with
        | nil => rfl
        | cons _ _ => exact l2.elim
      subst this
      rw [List.append_nil] at e1
      subst e1
      obtain ⟨S1, I1, hS1, hf1⟩ := I.still fz
      have hD := l3 S1 hS1 (fun b hb => hf1 b hb (l1 b hb))
      refine ih (nt := upd nt i (.agg (cellsD u x))) (t := t) (m := Go.PM.still fz m) (nm := nm) ⟨I1.ro, I1.rn.setT fun d => ?_, I1.dj⟩ h hk
      by_cases e : d = i
      · subst e; rw [upd_same, e0]; exact ⟨vs, cellsD_sound hD, rfl⟩
      · rw [upd_other _ _ e]; exact I1.rn.tm d
    | var id shs =>
      simp only [maskAll] at h
      split at h <;> try (cases h; done)
      rename_i b hx
      split at h <;> try (cases h; done)
      rename_i cs hm hf
      have htm := I.ro.tm i
      rw [show ({ so with t := t, m := m } : St).t i = _ from hx] at htm
      simp only [RepPV, RepLV, hm] at htm
      obtain ⟨_, g, hg1, hg2⟩ := htm
      have hb := I.ro.mem b
      unfold RepBlk at hb
      rw [show ({ so with t := t, m := m } : St).m b = _ from hm] at hb
      obtain ⟨g', T, vs, hb1, hb2, hb3, hb4, _⟩ := hb
      rw [hg1] at hb1; cases hb1
      refine maskCs_sound (so := { so with t := t }) (sn := { sn with t := nt }) shs cs vs I hb4 h fun ρn1 S1 m1 nm1 cs1 I1 M1 k1 h => ?_
      split at h <;> try (cases h; done)
      rename_i cs2 hm1 hf1
      have hl1 : (m1 b).live = true := by rw [hm1]; rfl
      obtain ⟨I2, o2, n2⟩ := I1.move (b := b) (id := id) (blk := .var true cs1) hl1 hf1 (by
        have okk : ∀ q, Ok1 ρn1 (upd ρn1 id (ρ b)) nm1 (upd nm1 id (.var true cs1)) q := by
          intro q
          by_cases e : q = id
          · subst e; unfold Ok1; rw [hf1]; cases upd nm1 q (Blk.var true cs1) q <;> trivial
          · exact Ok1.same (upd_other _ _ e) (upd_other _ _ e)
        unfold RepBlk
        rw [upd_same, upd_same]
        exact ⟨g, T, vs, hg1, hb2, hb3, All2.mono (fun _ _ h => RepLV.step okk h) k1, fun h => by cases h⟩)
      refine ih (nt := upd nt i (.one (.vptr id 0))) (t := t) (m := upd m1 b .dead) (nm := upd nm1 id (.var true cs1)) ⟨I2.ro, I2.rn.setT fun d => ?_, I2.dj⟩ h hk
      by_cases e : d = i
      · subst e
        rw [upd_same]
        simp only [RepPV, RepLV, upd_same]
        exact ⟨by rw [hg2]; rfl, g, hg1, hg2⟩
      · rw [upd_other _ _ e]; exact I2.rn.tm d

theorem mask_sound {sh : List (Nat × Sh)} {nx : Nat} {k : St → Option R} {G : Prop} (r : Rel P C ρ S st a w) (h : mask sh nx st k = some y) (hk : ∀ ρ' S' st', Rel P C ρ' S' st' a w → k st' = some y → G) : G := by
  unfold mask at h
  have nl : ∀ b, ¬ (upd (fun _ => Blk.free) 0 Blk.held b).live = true := by
    intro b
    by_cases e : b = 0
    · subst e; rw [upd_same]; simp [Blk.live]
    · rw [upd_other _ _ e]; simp [Blk.live]
  refine maskAll_sound (so := st) (sn := { st with nx := nx }) (ρn := ρ) (S := S) (nt := fun _ => .undef) (nm := upd (fun _ => .free) 0 .held) sh ⟨r, ⟨r.defers, r.below, r.sb, r.s0, r.s1, fun _ => trivial, r.sz, fun b => ?_, fun b _ _ h => absurd h (nl b), fun b h => absurd h (nl b), fun b h => absurd h (nl b), r.gl, fun u hu => ⟨fun e => (by have e : upd (fun _ => Blk.free) 0 Blk.held 0 = .free := e; rw [upd_same] at e; cases e), (r.mz u hu).2⟩⟩, fun b _ _ h => absurd h (nl b)⟩ h fun ρ' S' nt nm r' h' => ?_
  · show RepBlk P C ρ (upd (fun _ => Blk.free) 0 Blk.held) w S b
    unfold RepBlk
    by_cases e : b = 0
    · subst e; rw [upd_same]; trivial
    · rw [upd_other _ _ e]; trivial
  · exact hk _ _ _ r' h'

theorem head_sound {c : Code} {k : St → Option R} {G : Prop} (r : Rel P C ρ S st a w) (h : headOf Γ c st k = some y) (hk : ∀ ρ' S' st', Rel P C ρ' S' st' a w → k st' = some y → G) : G := by
  unfold headOf at h
  split at h
  · exact hk _ _ _ r h
  · exact mask_sound r h hk

end Go.PM

/-! PmNat -/
namespace Go.PM
set_option linter.unusedVariables false
set_option linter.unusedSimpArgs false
variable {R : Type} {Γ : Env}

theorem cond_bind {α β : Type} (b : Bool) (x y : Option α) (f : α → Option β) : (cond b x y).bind f = cond b (x.bind f) (y.bind f) := by cases b <;> rfl
theorem ite_bind {α β : Type} {c : Prop} [Decidable c] (x y : Option α) (f : α → Option β) : (if c then x else y).bind f = if c then x.bind f else y.bind f := by split <;> rfl

/-- An operation's value and the memory behind it. -/
def opR (Γ : Env) (id : Nat) (o : Oper) (st : St) : Option (PV × (Nat → Blk)) := exOp Γ id o st fun v s => some (v, s.m)

theorem binLV_nat (op : BinOp) (x y : LV) (k : LV → Option R) : binLV op x y k = (binLV op x y some).bind k := by
  unfold binLV
  split <;> simp only [cond_bind, ite_bind, Option.bind_some, Option.bind_none]
theorem unLV_nat (op : UnOp) (x : LV) (k : LV → Option R) : unLV op x k = (unLV op x some).bind k := by
  unfold unLV
  split <;> rfl
theorem one1_nat (x : PV) (k : LV → Option R) : one1 x k = (one1 x some).bind k := by cases x <;> rfl
theorem sliceBounds_nat (len : Int) (l h m : Option LV) (k : Int → Int → Option R) : sliceBounds len l h m k = (sliceBounds len l h m fun a b => some (a, b)).bind fun q => k q.1 q.2 := by
  unfold sliceBounds
  split <;> simp only [cond_bind, ite_bind, Option.bind_some, Option.bind_none]
theorem listOf_nat (st : St) (e : Ty) (x : LV) (k : List (Den e) → Option R) : listOf Γ st e x k = (listOf Γ st e x some).bind k := by
  unfold listOf
  split <;> rfl
theorem exPlain_nat (id : Nat) (p r : Ty) (fr : List (Option Nat)) (f : Den p → Option (Den r)) (args : List PV) (st : St) (k : PV → St → Option R) :
    exPlain id p r fr f args st k = (exPlain id p r fr f args st fun v s => some (v, s.m)).bind fun q => k q.1 { st with m := q.2 } := by
  unfold exPlain
  split
  · rw [Option.bind_assoc]
    congr 1
    funext y
    split <;> rfl
  · rfl
theorem exCall_nat (id : Nat) (f : PV) (args : List PV) (st : St) (k : PV → St → Option R) :
    exCall Γ id f args st k = (exCall Γ id f args st fun v s => some (v, s.m)).bind fun q => k q.1 { st with m := q.2 } := by
  unfold exCall
  split
  · split
    · rw [Option.bind_assoc]
      congr 1
      funext y
      split <;> rfl
    · rfl
  · rfl
theorem exWin_nat (id tid : Nat) (p r : Ty) (fr : List (Option Nat)) (f : Den p → Option (Den r)) (args : List PV) (st : St) (k : PV → St → Option R) :
    exWin id tid p r fr f args st k = (exWin id tid p r fr f args st fun v s => some (v, s.m)).bind fun q => k q.1 { st with m := q.2 } := by
  unfold exWin
  split
  · split
    · split
      · rw [cond_bind]
        congr 1
        split
        · rw [cond_bind]
          congr 1
          rw [Option.bind_assoc]
          congr 1
          funext y
          split <;> rfl
        · rfl
      · rfl
    · rfl
  · rfl
theorem exFunc_nat (id g : Nat) (args : List PV) (st : St) (k : PV → St → Option R) :
    exFunc Γ id g args st k = (exFunc Γ id g args st fun v s => some (v, s.m)).bind fun q => k q.1 { st with m := q.2 } := by
  unfold exFunc
  split
  · split
    · exact exWin_nat ..
    · exact exPlain_nat ..
  · rfl
theorem exBuiltin_nat (id : Nat) (b : Builtin) (c : Call) (st : St) (k : PV → St → Option R) :
    exBuiltin Γ id b c st k = (exBuiltin Γ id b c st fun v s => some (v, s.m)).bind fun q => k q.1 { st with m := q.2 } := by
  unfold exBuiltin
  split
  · split
    · split <;> first | rfl | (split <;> rfl)
    · rfl
  · split
    · rw [ite_bind]; congr 1
    · rfl
  · split
    · rw [ite_bind]; congr 1
    · rfl
  · rw [cond_bind]
    congr 1
    split
    · split
      · split
        · cases operand Γ st _ with
          | one xv =>
            simp only [one1, listOf]
            split
            · split
              · rw [cond_bind, cond_bind]; congr 1
              · split
                · rw [cond_bind]; congr 1
                  split
                  · rw [cond_bind]; congr 1
                  · rfl
                · rfl
              · split
                · rw [cond_bind]; congr 1
                  split
                  · rw [cond_bind]; congr 1
                  · rfl
                · rfl
              · rfl
            · rfl
          | _ => rfl
        · rfl
      · rfl
    · rfl
  · split
    · split
      · split
        · cases operand Γ st _ with
          | one xv =>
            simp only [one1, listOf]
            split
            · split
              · split
                · split <;> rfl
                · rfl
              · rfl
            · rfl
          | _ => rfl
        · rfl
      · rfl
    · rfl
  · rfl

theorem exOp_nat (id : Nat) (o : Oper) (st : St) (k : PV → St → Option R) : exOp Γ id o st k = (opR Γ id o st).bind fun q => k q.1 { st with m := q.2 } := by
  unfold opR
  cases ho : o.op <;> simp only [exOp, ho, seen_eq] <;> try rfl
  case pick c x z => split <;> first | rfl | (rw [cond_bind]; rfl)
  case alloc e => split <;> rfl
  case box e x => split <;> first | rfl | (rw [cond_bind]; rfl)
  case build t parts =>
    split
    · split
      · rw [cond_bind]; congr 1; split <;> rfl
      · split
        · split <;> rfl
        · rfl
      · rfl
    · rfl
  case buildSlice t n parts =>
    split
    · split
      · split
        · split
          · rw [cond_bind]; rfl
          · rfl
        · rfl
      · rfl
    · rfl
  case load t x =>
    split
    · split
      · rw [cond_bind]; rfl
      · rfl
    · split
      · split <;> rfl
      · split
        · rw [cond_bind]; rfl
        · rfl
      · rw [cond_bind]; rfl
      · rfl
    · split <;> rfl
    · rfl
  case store t x z =>
    split
    · rw [cond_bind]; congr 1; split
      · rw [cond_bind]; rfl
      · rfl
    · rw [cond_bind]; congr 1; split
      · split
        · rw [cond_bind]; congr 1; split
          · rw [cond_bind]; rfl
          · rfl
        · split
          · rw [cond_bind]; rfl
          · rfl
      · split
        · split
          · rw [cond_bind]; congr 1; split
            · split
              · rfl
              · rw [cond_bind]; rfl
            · rfl
          · rfl
        · rfl
      · rfl
    · rw [cond_bind]; congr 1; split
      · rw [cond_bind]; congr 1; split
        · rw [cond_bind]; rfl
        · rfl
      · rfl
    · rfl
  case binOp op t x z q =>
    cases operand Γ st x with
    | one u =>
      simp only [one1]
      cases operand Γ st z with
      | one v =>
        simp only [one1]
        split
        · split
          · split
            · rw [binLV_nat _ _ _ (fun v => k (.one v) st), binLV_nat _ _ _ (fun v => some (PV.one v, st.m)), Option.bind_assoc]; rfl
            · rfl
          · rfl
        · rw [binLV_nat _ _ _ (fun v => k (.one v) st), binLV_nat _ _ _ (fun v => some (PV.one v, st.m)), Option.bind_assoc]; rfl
      | _ => rfl
    | _ => rfl
  case unOp op t x =>
    cases operand Γ st x with
    | one u =>
      simp only [one1]
      rw [unLV_nat _ _ (fun v => k (.one v) st), unLV_nat _ _ (fun v => some (PV.one v, st.m)), Option.bind_assoc]; rfl
    | _ => rfl
  case convert s d x =>
    split
    · split
      · rfl
      · rfl
      · split
        · split
          · rw [listOf_nat _ _ _ (fun xs => k _ _), listOf_nat _ _ _ (fun xs => some (PV.one _, st.m)), Option.bind_assoc]; rfl
          · rfl
        · rfl
      · rfl
    · rfl
  case makeSlice t lo co =>
    rw [cond_bind]; congr 1
    split
    · split
      · split
        · rw [cond_bind, cond_bind, cond_bind]; rfl
        · rfl
      · rfl
    · rfl
  case slice t x lo hi mx =>
    split
    · split
      · split
        · rw [sliceBounds_nat _ _ _ _ (fun a b => k _ _), sliceBounds_nat _ _ _ _ (fun a b => some (PV.one _, _)), Option.bind_assoc]; rfl
        · split
          · split
            · rw [sliceBounds_nat _ _ _ _ (fun a b => k _ _), sliceBounds_nat _ _ _ _ (fun a b => some (PV.one _, _)), Option.bind_assoc]; rfl
            · rfl
          · rfl
        · split
          · split
            · split
              · rw [sliceBounds_nat _ _ _ _ (fun a b => k _ _), sliceBounds_nat _ _ _ _ (fun a b => some (PV.one _, _)), Option.bind_assoc]; rfl
              · rfl
            · rfl
          · rfl
        · split
          · split
            · split
              · rw [sliceBounds_nat _ _ _ _ (fun a b => k _ _), sliceBounds_nat _ _ _ _ (fun a b => some (PV.one _, _)), Option.bind_assoc]; rfl
              · rfl
            · rfl
          · rfl
        · rfl
      · rfl
    · rfl
  case fieldAddr t x f =>
    split
    · split
      · split
        · split
          · split
            · rw [cond_bind]; rfl
            · rfl
          · rw [cond_bind]; congr 1
            split
            · split <;> rfl
            · rfl
          · rfl
        · rfl
      · rfl
    · rfl
  case indexAddr t x i =>
    split
    · split
      · split
        · split
          · rw [cond_bind, cond_bind]; rfl
          · rfl
        · split
          · split
            · rw [cond_bind, cond_bind]; rfl
            · rfl
          · split
            · rw [cond_bind, cond_bind]; rfl
            · rfl
          · rw [cond_bind, cond_bind, cond_bind]; rfl
          · rfl
        · split
          · rw [cond_bind]; congr 1; split
            · rw [cond_bind, cond_bind]; rfl
            · rfl
          · rfl
        · split
          · split
            · rw [cond_bind, cond_bind]; rfl
            · rfl
          · rfl
        · rfl
      · split
        · split
          · rw [cond_bind, cond_bind]; rfl
          · rfl
        · rfl
      · rfl
    · rfl
  case index t x i =>
    split
    · split
      · split
        · rw [cond_bind, cond_bind]; rfl
        · rfl
      · rfl
    · split
      · split
        · split
          · rw [cond_bind, cond_bind, cond_bind]; rfl
          · rfl
        · rfl
      · rfl
    · rfl
  case field t x f =>
    split
    · split
      · split
        · split
          · rw [cond_bind]; rfl
          · rfl
        · rfl
      · rfl
    · rfl
  case extract x i =>
    split
    · split <;> rfl
    · rfl
  case makeFunc f fi ca =>
    cases f with
    | func g =>
      simp only
      split
      · split
        · split
          · split <;> rfl
          · rfl
        · rfl
      · rfl
    | _ => rfl
  case range t x =>
    split
    · split <;> rfl
    · rfl
  case next x q =>
    cases q with
    | false => rfl
    | true =>
      simp only
      split
      · split
        · rw [cond_bind]; rfl
        · rfl
      · rfl
  case call c =>
    split
    · exact exBuiltin_nat ..
    · exact exFunc_nat ..
    · exact exCall_nat ..
    · rfl
end Go.PM

/-! PmCongr -/
namespace Go.PM
set_option linter.unusedVariables false
set_option linter.unusedSimpArgs false
variable {R : Type} {Γ : Env} {st st' : St}

theorem optLV_congr {o : Option Operand} (h : ∀ x, o = some x → operand Γ st' x = operand Γ st x) : optLV Γ st' o = optLV Γ st o := by
  cases o with
  | none => rfl
  | some x => simp only [optLV, h x rfl]
theorem partsC_congr {place : Nat → Option (Nat × Ty)} : ∀ (l : List (Nat × Operand)) (cs : List LV), (∀ q ∈ l, operand Γ st' q.2 = operand Γ st q.2) → partsC Γ st' l place cs = partsC Γ st l place cs
  | [], _, _ => rfl
  | (i, o) :: r, cs, h => by
    have ih := fun cs => partsC_congr (place := place) r cs fun q hq => h q (List.mem_cons_of_mem _ hq)
    have h0 := h (i, o) (List.mem_cons_self ..)
    simp only at h0
    simp only [partsC, h0, ih]
theorem partsR_congr (hm : st'.m = st.m) {e : Ty} : ∀ (l : List (Nat × Operand)) (n : Nat), (∀ q ∈ l, operand Γ st' q.2 = operand Γ st q.2) → partsR Γ st' e l n = partsR Γ st e l n
  | [], _, _ => rfl
  | (i, o) :: r, n, h => by
    simp only [partsR]
    rw [h (i, o) (List.mem_cons_self ..), hm]
    rw [partsR_congr hm r (n + 1) fun q hq => h q (List.mem_cons_of_mem _ hq)]

theorem exPlain_congr (hm : st'.m = st.m) (id : Nat) (p r : Ty) (fr : List (Option Nat)) (f : Den p → Option (Den r)) (args : List PV) :
    (exPlain id p r fr f args st' fun v s => some (v, s.m)) = exPlain id p r fr f args st fun v s => some (v, s.m) := by
  unfold exPlain
  rw [hm]
theorem exCall_congr (hm : st'.m = st.m) (id : Nat) (f : PV) (args : List PV) :
    (exCall Γ id f args st' fun v s => some (v, s.m)) = exCall Γ id f args st fun v s => some (v, s.m) := by
  unfold exCall
  rw [hm]
theorem exWin_congr (hm : st'.m = st.m) (id tid : Nat) (p r : Ty) (fr : List (Option Nat)) (f : Den p → Option (Den r)) (args : List PV) :
    (exWin id tid p r fr f args st' fun v s => some (v, s.m)) = exWin id tid p r fr f args st fun v s => some (v, s.m) := by
  unfold exWin
  split
  · simp only [hm]
  · rfl
theorem exFunc_congr (hm : st'.m = st.m) (id g : Nat) (args : List PV) :
    (exFunc Γ id g args st' fun v s => some (v, s.m)) = exFunc Γ id g args st fun v s => some (v, s.m) := by
  unfold exFunc
  split
  · split
    · exact exWin_congr hm ..
    · exact exPlain_congr hm ..
  · rfl
theorem exBuiltin_congr (hm : st'.m = st.m) (id : Nat) (b : Builtin) (c : Call) (h : ∀ x ∈ c.args.toList, operand Γ st' x = operand Γ st x) :
    (exBuiltin Γ id b c st' fun v s => some (v, s.m)) = exBuiltin Γ id b c st fun v s => some (v, s.m) := by
  unfold exBuiltin
  split
  · rename_i x t ha ht
    have hx := h x (by rw [ha]; simp)
    simp only [hx, hm]
  · rename_i x z ha
    have hx := h x (by rw [ha]; simp)
    have hz := h z (by rw [ha]; simp)
    simp only [hx, hz, hm]
  · rename_i x z ha
    have hx := h x (by rw [ha]; simp)
    have hz := h z (by rw [ha]; simp)
    simp only [hx, hz, hm]
  · rename_i s x t u ha ht
    have hx := h x (by rw [ha]; simp)
    have hz := h s (by rw [ha]; simp)
    simp only [listOf, hx, hz, hm]
  · rename_i s x t u ha ht
    have hx := h x (by rw [ha]; simp)
    have hz := h s (by rw [ha]; simp)
    simp only [listOf, hx, hz, hm]
  · rfl

theorem opR_congr (hm : st'.m = st.m) {id : Nat} {o : Oper} (h : ∀ x ∈ o.op.operands.toList, operand Γ st' x = operand Γ st x) : opR Γ id o st' = opR Γ id o st := by
  unfold opR
  cases ho : o.op <;> simp only [exOp, ho, seen_eq] <;> rw [ho] at h
  case move x => have hx := h x (by simp [Op.operands]); rw [hx, hm]
  case assign x => have hx := h x (by simp [Op.operands]); rw [hx, hm]
  case pick c x z =>
    have h1 := h c (by simp [Op.operands]); have h2 := h x (by simp [Op.operands]); have h3 := h z (by simp [Op.operands])
    simp only [h1, h2, h3, hm]
  case alloc e => simp only [hm]
  case box e x => have hx := h x (by simp [Op.operands]); simp only [hx, hm]
  case build t parts =>
    have hp : ∀ q ∈ parts.toList, operand Γ st' q.2 = operand Γ st q.2 := fun q hq => h q.2 (by simp only [Op.operands, List.mem_map]; exact ⟨q, hq, rfl⟩)
    simp only [partsC_congr _ _ hp, hm]
  case buildSlice t n parts =>
    have hp : ∀ q ∈ parts.toList, operand Γ st' q.2 = operand Γ st q.2 := fun q hq => h q.2 (by simp only [Op.operands, List.mem_map]; exact ⟨q, hq, rfl⟩)
    simp only [partsR_congr hm _ _ hp, hm]
  case load t x => have hx := h x (by simp [Op.operands]); simp only [hx, hm]
  case store t x z => have hx := h x (by simp [Op.operands]); have hz := h z (by simp [Op.operands]); simp only [hx, hz, hm]
  case binOp op t x z q => have hx := h x (by simp [Op.operands]); have hz := h z (by simp [Op.operands]); simp only [hx, hz, hm]
  case unOp op t x => have hx := h x (by simp [Op.operands]); simp only [hx, hm]
  case convert s d x => have hx := h x (by simp [Op.operands]); simp only [listOf, hx, hm]
  case makeSlice t lo co => have hx := h lo (by simp [Op.operands]); simp only [hx, hm]
  case slice t x lo hi mx =>
    have hx := h x (by simp [Op.operands])
    have h1 : optLV Γ st' lo = optLV Γ st lo := optLV_congr fun u hu => h u (by simp [Op.operands, hu])
    have h2 : optLV Γ st' hi = optLV Γ st hi := optLV_congr fun u hu => h u (by simp [Op.operands, hu])
    have h3 : optLV Γ st' mx = optLV Γ st mx := optLV_congr fun u hu => h u (by simp [Op.operands, hu])
    simp only [hx, h1, h2, h3, hm]
  case fieldAddr t x f => have hx := h x (by simp [Op.operands]); simp only [hx, hm]
  case indexAddr t x i => have hx := h x (by simp [Op.operands]); have hz := h i (by simp [Op.operands]); simp only [hx, hz, hm]
  case index t x i => have hx := h x (by simp [Op.operands]); have hz := h i (by simp [Op.operands]); simp only [hx, hz, hm]
  case field t x f => have hx := h x (by simp [Op.operands]); simp only [hx, hm]
  case extract x i => have hx := h x (by simp [Op.operands]); simp only [hx, hm]
  case makeFunc f fi ca =>
    cases f with
    | func g =>
      simp only
      split
      · rename_i c E h1 h2 h3
        have hx := h c (by
          have : c ∈ ca.toList := by rw [h2]; simp
          simp only [Op.operands, Array.toList_append, List.mem_append]; exact .inr this)
        simp only [hx, hm]
      · rfl
    | _ => rfl
  case range t x => have hx := h x (by simp [Op.operands]); simp only [hx, hm]
  case next x q =>
    cases q with
    | false => rfl
    | true => have hx := h x (by simp [Op.operands]); simp only [hx, hm]
  case call c =>
    have ha : ∀ x ∈ c.args.toList, operand Γ st' x = operand Γ st x := fun x hx => h x (by simp [Op.operands, Call.operands] at hx ⊢; cases c.callee <;> simp [hx])
    have hmap : c.args.toList.map (operand Γ st') = c.args.toList.map (operand Γ st) := List.map_congr_left ha
    split
    · exact exBuiltin_congr hm _ _ _ ha
    · rw [hmap]; exact exFunc_congr hm _ _ _
    · rename_i f hf hc
      have hx := h f (by simp [Op.operands, Call.operands, hc])
      rw [hmap, hx]; exact exCall_congr hm _ _ _
    · rfl
end Go.PM

/-! PmSwap -/
namespace Go.PM
set_option linter.unusedVariables false
set_option linter.unusedSimpArgs false
variable {R : Type} {Γ : Env} {st st' : St} {id : Nat} {o : Oper} {v : PV} {m m1 m' : Nat → Blk}

/-- What was there is there, as far as it can be read. -/
def Sup (m m' : Nat → Blk) : Prop := ∀ b, m b ≠ .free → (m' b).still = (m b).still
theorem Sup.refl (m : Nat → Blk) : Sup m m := fun _ _ => rfl
theorem Sup.row (h : Sup m m') {b : Nat} {l : Bool} {tid : Nat} {e : Ty} {xs : List (Den e)} (hb : m b = .row l tid e xs) : ∃ l', m' b = .row l' tid e xs := by
  have := h b (by rw [hb]; intro e; cases e)
  rw [hb] at this
  cases hm : m' b <;> rw [hm] at this <;> simp only [Blk.still] at this <;> cases this
  exact ⟨_, rfl⟩
theorem Sup.hole (h : Sup m m') {b : Nat} {tid : Nat} {e : Ty} {xs : List (Den e)} {i j : Nat} (hb : m b = .hole tid e xs i j) : m' b = .hole tid e xs i j := by
  have := h b (by rw [hb]; intro e; cases e)
  rw [hb] at this
  cases hm : m' b <;> rw [hm] at this <;> simp only [Blk.still] at this <;> cases this
  rfl
theorem Sup.deep (h : Sup m m') {b t1 t2 u : Nat} {l : Bool} {e : Ty} {xs : List (List (Den e))} {oo : Option Nat} (hb : m b = .deep l t1 t2 e xs oo u) : ∃ l', m' b = .deep l' t1 t2 e xs oo u := by
  have := h b (by rw [hb]; intro e; cases e)
  rw [hb] at this
  cases hm : m' b <;> rw [hm] at this <;> simp only [Blk.still] at this <;> cases this
  exact ⟨_, rfl⟩
theorem Sup.var (h : Sup m m') {b : Nat} {l : Bool} {cs : List LV} (hb : m b = .var l cs) : ∃ l', m' b = .var l' cs := by
  have := h b (by rw [hb]; intro e; cases e)
  rw [hb] at this
  cases hm : m' b <;> rw [hm] at this <;> simp only [Blk.still] at this <;> cases this
  exact ⟨_, rfl⟩

theorem toDen_sup (h : Sup m m') : ∀ (t : Ty) (cs : List LV) (x : Den t) (fz : List Nat) (rest : List LV), toDen m t cs = some (x, fz, rest) → toDen m' t cs = some (x, fz, rest) ∧ ∀ b ∈ fz, m b ≠ .free := by
  intro t
  induction t with
  | int k => intro cs x fz rest hd; cases cs with
    | nil => simp only [toDen] at hd; cases hd
    | cons c cs => cases c <;> simp only [toDen] at hd ⊢ <;> first | (cases hd; done) | (refine ⟨hd, ?_⟩; split at hd <;> cases hd; simp)
  | bool => intro cs x fz rest hd; cases cs with
    | nil => simp only [toDen] at hd; cases hd
    | cons c cs => cases c <;> simp only [toDen] at hd ⊢ <;> first | (cases hd; done) | (cases hd; exact ⟨rfl, by simp⟩)
  | str => intro cs x fz rest hd; cases cs with
    | nil => simp only [toDen] at hd; cases hd
    | cons c cs => cases c <;> simp only [toDen] at hd ⊢ <;> first | (cases hd; done) | (cases hd; exact ⟨rfl, by simp⟩)
  | unit => intro cs x fz rest hd; simp only [toDen] at hd ⊢; cases hd; exact ⟨rfl, by simp⟩
  | sl e _ =>
    intro cs x fz rest hd
    cases cs with
    | nil => simp only [toDen] at hd; cases hd
    | cons c cs =>
      cases c with
      | nil => simp only [toDen] at hd ⊢; cases hd; exact ⟨rfl, by simp⟩
      | sl e' xs =>
        simp only [toDen] at hd ⊢
        refine ⟨hd, ?_⟩
        split at hd <;> cases hd
        simp
      | own b =>
        simp only [toDen] at hd ⊢
        cases hm : m b with
        | row l tid e' xs =>
          obtain ⟨l', hm'⟩ := h.row hm
          rw [hm] at hd
          rw [hm']
          refine ⟨hd, ?_⟩
          simp only at hd
          split at hd <;> cases hd
          intro b' hb'
          simp only [List.mem_singleton] at hb'
          subst hb'
          rw [hm]; intro e; cases e
        | deep l t1 t2 e' xs oo u =>
          obtain ⟨l', hm'⟩ := h.deep hm
          rw [hm] at hd
          rw [hm']
          cases oo with
          | some p => cases hd
          | none =>
            refine ⟨hd, ?_⟩
            simp only at hd
            split at hd <;> cases hd
            intro b' hb'
            simp only [List.mem_singleton] at hb'
            subst hb'
            rw [hm]; intro e; cases e
        | _ => rw [hm] at hd; cases hd
      | sub b off len =>
        simp only [toDen] at hd ⊢
        cases hm : m b with
        | row l tid e' xs =>
          obtain ⟨l', hm'⟩ := h.row hm
          rw [hm] at hd
          rw [hm']
          refine ⟨hd, ?_⟩
          simp only at hd
          split at hd <;> cases hd
          intro b' hb'
          simp only [List.mem_singleton] at hb'
          subst hb'
          rw [hm]; intro e; cases e
        | _ => rw [hm] at hd; cases hd
      | _ => simp only [toDen] at hd; cases hd
  | pair t1 t2 ih1 ih2 =>
    intro cs x fz rest hd
    simp only [toDen] at hd ⊢
    split at hd <;> try (cases hd; done)
    rename_i x1 f1 r1 h1
    split at hd <;> try (cases hd; done)
    rename_i y1 g1 s1 h2
    cases hd
    obtain ⟨a1, b1⟩ := ih1 _ _ _ _ h1
    obtain ⟨a2, b2⟩ := ih2 _ _ _ _ h2
    rw [a1]
    simp only [a2]
    exact ⟨trivial, fun b hb => (List.mem_append.1 hb).elim (b1 b) (b2 b)⟩
  | ptr e ih =>
    intro cs x fz rest hd
    cases cs with
    | nil => simp only [toDen] at hd; cases hd
    | cons c cs =>
      cases c with
      | eptr e' z =>
        simp only [toDen] at hd ⊢
        refine ⟨hd, ?_⟩
        split at hd <;> cases hd
        simp
      | vptr b c =>
        cases c with
        | succ c => simp only [toDen] at hd; cases hd
        | zero =>
          simp only [toDen] at hd ⊢
          cases hm : m b with
          | var l cs' =>
            obtain ⟨l', hm'⟩ := h.var hm
            rw [hm] at hd
            rw [hm']
            simp only at hd ⊢
            split at hd <;> try (cases hd; done)
            rename_i x1 f1 h1
            cases hd
            obtain ⟨a1, b1⟩ := ih _ _ _ _ h1
            rw [a1]
            refine ⟨rfl, fun b' hb' => ?_⟩
            rcases List.mem_cons.1 hb' with rfl | hb'
            · rw [hm]; intro e; cases e
            · exact b1 b' hb'
          | _ => rw [hm] at hd; cases hd
      | _ => simp only [toDen] at hd; cases hd
  | fn p q _ _ =>
    intro cs x fz rest hd
    cases cs with
    | nil => simp only [toDen] at hd; cases hd
    | cons c cs =>
      cases c with
      | fn p' q' F =>
        simp only [toDen] at hd ⊢
        refine ⟨hd, ?_⟩
        split at hd <;> try (cases hd; done)
        split at hd <;> cases hd
        simp
      | _ => simp only [toDen] at hd; cases hd

theorem toDenL_sup (h : Sup m m') {e : Ty} {x : LV} {xs : List (Den e)} {fz : List Nat} {rest : List LV} (hd : toDenL m e x = some (xs, fz, rest)) : toDenL m' e x = some (xs, fz, rest) := by
  unfold toDenL at hd ⊢
  obtain ⟨h1, h2⟩ := bif_none hd
  have h3 := (toDen_sup h _ _ _ _ _ h2).1
  have h4 : shallow m' x = true := by
    cases x with
    | own b =>
      simp only [toDen] at h2
      simp only [shallow] at h1 ⊢
      cases hm : m b with
      | row l t e xs => obtain ⟨l', hm'⟩ := h.row hm; rw [hm']
      | deep => rw [hm] at h1; cases h1
      | _ => rw [hm] at h2; cases h2
    | _ => rfl
  rw [h4]; exact h3
theorem toArgs_sup (h : Sup m m') : ∀ (p : Ty) (l : List PV) (x : Den p) (fz : List Nat), toArgs m p l = some (x, fz) → toArgs m' p l = some (x, fz) ∧ ∀ b ∈ fz, m b ≠ .free := by
  intro p
  induction p with
  | unit =>
    intro l x fz hd
    cases l with
    | nil => simp only [toArgs] at hd ⊢; cases hd; exact ⟨rfl, by simp⟩
    | cons => simp only [toArgs] at hd; cases hd
  | pair a b _ ih =>
    intro l x fz hd
    cases l with
    | nil => simp only [toArgs] at hd; cases hd
    | cons u l =>
      simp only [toArgs] at hd ⊢
      split at hd <;> try (cases hd; done)
      rename_i g cs hc
      obtain ⟨hg, hd⟩ := bif_none hd
      rw [hg]
      simp only [cond_true]
      split at hd <;> try (cases hd; done)
      rename_i x1 f1 h1
      split at hd <;> try (cases hd; done)
      rename_i y1 f2 h2
      cases hd
      obtain ⟨a1, b1⟩ := toDen_sup h _ _ _ _ _ h1
      obtain ⟨a2, b2⟩ := ih _ _ _ h2
      rw [a1]
      simp only [a2]
      exact ⟨trivial, fun b hb => (List.mem_append.1 hb).elim (b1 b) (b2 b)⟩
  | _ => intro l x fz hd; cases l <;> simp only [toArgs] at hd <;> cases hd

theorem opR_A (h : isA o.op = true) : opR Γ id o { st with m := m' } = (opR Γ id o st).map fun q => (q.1, m') := by
  unfold opR
  have hop : ∀ x, operand Γ { st with m := m' } x = operand Γ st x := fun x => by cases x <;> rfl
  cases ho : o.op <;> rw [ho] at h <;> simp only [isA] at h <;> try (cases h; done)
  case move x => simp only [exOp, ho, seen_eq, hop]; rfl
  case assign x => simp only [exOp, ho, seen_eq, hop]; rfl
  case pick c x z =>
    simp only [exOp, ho, seen_eq, hop]
    split
    · rename_i b hb; cases b <;> rfl
    · rfl
  case build t parts =>
    simp only [exOp, ho, partsC_congr (Γ := Γ) (st := st) (st' := { st with m := m' }) parts.toList _ (fun q _ => hop q.2)]
    split
    · split
      · rename_i fs hk
        cases hb : fs.all (fun q => (Γ.T q.2).isSome) with
        | false => rfl
        | true => simp only [cond_true]; split <;> rfl
      · split
        · split <;> rfl
        · rfl
      · rfl
    · rfl
  case binOp op t x z q =>
    simp only [exOp, ho, hop]
    have key : ∀ (m : Nat → Blk) (u v : LV), (binLV op u v fun v => some (PV.one v, m)) = (binLV op u v some).map fun v => (PV.one v, m) := by
      intro m u v
      rw [binLV_nat op u v (fun v => some (PV.one v, m))]
      cases binLV op u v some <;> rfl
    cases operand Γ st x with
    | one u =>
      simp only [one1]
      cases operand Γ st z with
      | one v =>
        simp only [one1]
        split
        · split
          · split
            · simp only [key]; cases binLV op _ v some <;> rfl
            · rfl
          · rfl
        · simp only [key]; cases binLV op u v some <;> rfl
      | _ => rfl
    | _ => rfl
  case unOp op t x =>
    simp only [exOp, ho, hop]
    cases operand Γ st x with
    | one u =>
      simp only [one1]
      have key : ∀ m : Nat → Blk, (unLV op u fun v => some (PV.one v, m)) = (unLV op u some).map fun v => (PV.one v, m) := by
        intro m
        rw [unLV_nat op u (fun v => some (PV.one v, m))]
        cases unLV op u some <;> rfl
      simp only [key]; cases unLV op u some <;> rfl
    | _ => rfl
  case field t x f =>
    simp only [exOp, ho, seen_eq, hop]
    split
    · split
      · split
        · split
          · cases Nat.ble _ _ <;> rfl
          · rfl
        · rfl
      · rfl
    · rfl
  case extract x i =>
    simp only [exOp, ho, seen_eq, hop]
    split
    · split <;> rfl
    · rfl

theorem opR_B (hB : isB o.op = true) (h : opR Γ id o st = some (v, m1)) : m1 = st.m ∧ ∀ m', Sup st.m m' → opR Γ id o { st with m := m' } = some (v, m') := by
  unfold opR at *
  have hop : ∀ m' x, operand Γ { st with m := m' } x = operand Γ st x := fun m' x => by cases x <;> rfl
  have hopt : ∀ m' x, optLV Γ { st with m := m' } x = optLV Γ st x := fun m' x => optLV_congr fun u _ => hop m' u
  cases ho : o.op <;> rw [ho] at hB <;> simp only [isB] at hB <;> try (cases hB; done)
  case load t x =>
    simp only [exOp, ho, seen_eq, hop] at h ⊢
    split at h
    · rename_i row b c hT hx
      split at h <;> try (cases h; done)
      rename_i l cs hm
      obtain ⟨hle, h⟩ := bif_none h
      cases h
      refine ⟨rfl, fun m' hs => ?_⟩
      obtain ⟨l', hm'⟩ := hs.var hm
      simp only [hT, hx, hm', hle, cond_true]
    · rename_i row b i hT hx
      split at h <;> try (cases h; done)
      · rename_i l tid e xs hm
        split at h <;> try (cases h; done)
        rename_i ys hy
        cases h
        refine ⟨rfl, fun m' hs => ?_⟩
        obtain ⟨l', hm'⟩ := hs.row hm
        simp only [hT, hx, hm', hy]
      · rename_i tid e xs j jd hm
        split at h <;> try (cases h; done)
        rename_i zs l2 tid2 e2 ys hc hmj
        obtain ⟨h0, h⟩ := cond_none h
        cases h
        refine ⟨rfl, fun m' hs => ?_⟩
        have hm' := hs.hole hm
        obtain ⟨l', hmj'⟩ := hs.row hmj
        simp only [hT, hx, hm', hc, hmj', decide_eq_true h0, cond_true]
      · rename_i l t1 t2 e xs u hm
        obtain ⟨hsl, h⟩ := bif_none h
        cases h
        refine ⟨rfl, fun m' hs => ?_⟩
        obtain ⟨l', hm'⟩ := hs.deep hm
        simp only [hT, hx, hm', hsl, cond_true]
    · rename_i row e z hT hx
      split at h <;> try (cases h; done)
      rename_i y hy
      cases h
      exact ⟨rfl, fun m' hs => by simp only [hT, hx, hy]⟩
    · cases h
  case fieldAddr t x f =>
    simp only [exOp, ho, hop] at h ⊢
    split at h <;> try (cases h; done)
    rename_i row hT
    split at h <;> try (cases h; done)
    rename_i fs hk
    split at h <;> try (cases h; done)
    rename_i off u hf
    split at h
    · rename_i ur b c hU hx
      split at h <;> try (cases h; done)
      rename_i l cs hm
      obtain ⟨hs0, h⟩ := bif_none' h
      cases h
      refine ⟨rfl, fun m' hs => ?_⟩
      obtain ⟨l', hm'⟩ := hs.var hm
      simp only [hT, hk, hf, hU, hx, hm', hs0, cond_false]
    · rename_i ur e z hU hx
      obtain ⟨hs0, h⟩ := bif_none' h
      split at h <;> try (cases h; done)
      rename_i z' hc
      split at h <;> try (cases h; done)
      rename_i q hq
      cases h
      exact ⟨rfl, fun m' hs => by simp only [hT, hk, hf, hU, hx, hs0, cond_false, hc, hq]⟩
    · cases h
  case indexAddr t x i =>
    simp only [exOp, ho, hop] at h ⊢
    split at h <;> try (cases h; done)
    rename_i row q n hT hi
    split at h <;> try (cases h; done)
    · rename_i e hk
      split at h
      · rename_i er e' xs0 hE hx
        split at h <;> try (cases h; done)
        rename_i xs hc
        obtain ⟨h0, h⟩ := cond_none h
        obtain ⟨h1, h⟩ := cond_none h
        cases h
        exact ⟨rfl, fun m' hs => by simp only [hT, hi, hk, hE, hx, hc, decide_eq_true h0, decide_eq_true h1, cond_true]⟩
      · rename_i er b hE hx
        split at h <;> try (cases h; done)
        · rename_i l tid e' xs0 hm
          split at h <;> try (cases h; done)
          rename_i xs hc
          obtain ⟨h0, h⟩ := cond_none h
          obtain ⟨h1, h⟩ := cond_none h
          cases h
          refine ⟨rfl, fun m' hs => ?_⟩
          obtain ⟨l', hm'⟩ := hs.row hm
          simp only [hT, hi, hk, hE, hx, hm', hc, decide_eq_true h0, decide_eq_true h1, cond_true]
        · rename_i tid e' xs0 j1 j2 hm
          split at h <;> try (cases h; done)
          rename_i xs hc
          obtain ⟨h0, h⟩ := cond_none h
          obtain ⟨h1, h⟩ := cond_none h
          cases h
          refine ⟨rfl, fun m' hs => ?_⟩
          have hm' := hs.hole hm
          simp only [hT, hi, hk, hE, hx, hm', hc, decide_eq_true h0, decide_eq_true h1, cond_true]
        · rename_i l t1 t2 e' xs oo u hm
          obtain ⟨hsl, h⟩ := bif_none h
          obtain ⟨h0, h⟩ := cond_none h
          obtain ⟨h1, h⟩ := cond_none h
          cases h
          refine ⟨rfl, fun m' hs => ?_⟩
          obtain ⟨l', hm'⟩ := hs.deep hm
          simp only [hT, hi, hk, hE, hx, hm', hsl, decide_eq_true h0, decide_eq_true h1, cond_true]
      · rename_i er b j u hE hx
        split at h <;> try (cases h; done)
        rename_i l t1 t2 e' xs0 u0 hm
        obtain ⟨hu, h⟩ := bif_none h
        split at h <;> try (cases h; done)
        rename_i xs hc
        obtain ⟨h0, h⟩ := cond_none h
        obtain ⟨h1, h⟩ := cond_none h
        cases h
        refine ⟨rfl, fun m' hs => ?_⟩
        obtain ⟨l', hm'⟩ := hs.deep hm
        simp only [hT, hi, hk, hE, hx, hm', hu, hc, decide_eq_true h0, decide_eq_true h1, cond_true]
      · rename_i er b off len hE hx
        split at h <;> try (cases h; done)
        rename_i l tid e' xs0 hm
        split at h <;> try (cases h; done)
        rename_i xs hc
        obtain ⟨h0, h⟩ := cond_none h
        obtain ⟨h1, h⟩ := cond_none h
        cases h
        refine ⟨rfl, fun m' hs => ?_⟩
        obtain ⟨l', hm'⟩ := hs.row hm
        simp only [hT, hi, hk, hE, hx, hm', hc, decide_eq_true h0, decide_eq_true h1, cond_true]
      · cases h
    · rename_i len e hk
      split at h <;> try (cases h; done)
      rename_i er b c hE hx
      split at h <;> try (cases h; done)
      rename_i l cs hm
      obtain ⟨h0, h⟩ := cond_none h
      obtain ⟨h1, h⟩ := cond_none h
      cases h
      refine ⟨rfl, fun m' hs => ?_⟩
      obtain ⟨l', hm'⟩ := hs.var hm
      simp only [hT, hi, hk, hE, hx, hm', decide_eq_true h0, decide_eq_true h1, cond_true]
  case index t x i =>
    simp only [exOp, ho, seen_eq, hop] at h ⊢
    split at h
    · rename_i s q n hx hi
      split at h <;> try (cases h; done)
      rename_i row hT
      split at h <;> try (cases h; done)
      rename_i hk
      obtain ⟨h0, h⟩ := cond_none h
      obtain ⟨h1, h⟩ := cond_none h
      cases h
      exact ⟨rfl, fun m' hs => by simp only [hx, hi, hT, hk, decide_eq_true h0, decide_eq_true h1, cond_true]⟩
    · rename_i cs q n hx hi
      split at h <;> try (cases h; done)
      rename_i row hT
      split at h <;> try (cases h; done)
      rename_i len e hk
      split at h <;> try (cases h; done)
      rename_i er hE
      obtain ⟨h0, h⟩ := cond_none h
      obtain ⟨h1, h⟩ := cond_none h
      obtain ⟨hf, h⟩ := bif_none h
      cases h
      exact ⟨rfl, fun m' hs => by simp only [hx, hi, hT, hk, hE, decide_eq_true h0, decide_eq_true h1, hf, cond_true]⟩
    · cases h
  case convert s d x =>
    simp only [exOp, ho, hop] at h ⊢
    split at h <;> try (cases h; done)
    rename_i sr dr hs hd
    split at h
    · rename_i c0 c q n hsk hdk hx
      cases h
      exact ⟨rfl, fun m' _ => by simp only [hs, hd, hsk, hdk, hx]⟩
    · rename_i z hsk hdk hx
      cases h
      exact ⟨rfl, fun m' _ => by simp only [hs, hd, hsk, hdk, hx]⟩
    · rename_i e z hsk hdk hx
      split at h <;> try (cases h; done)
      rename_i er hE
      split at h <;> try (cases h; done)
      rename_i hek
      unfold listOf at h ⊢
      split at h <;> try (cases h; done)
      rename_i xs fz rest hto
      cases h
      exact ⟨rfl, fun m' hsup => by simp only [hs, hd, hsk, hdk, hx, hE, hek, toDenL_sup hsup hto]⟩
    · cases h
  case slice t x lo hi mx =>
    simp only [exOp, ho, hop, hopt] at h ⊢
    have key : ∀ (len : Int) (l h' m' : Option LV) (f : Int → Int → PV) (mm mm1 : Nat → Blk) (v : PV), (sliceBounds len l h' m' fun a b => some (f a b, mm)) = some (v, mm1) → mm1 = mm ∧ ∀ m2 : Nat → Blk, (sliceBounds len l h' m' fun a b => some (f a b, m2)) = some (v, m2) := by
      intro len l h' m' f mm mm1 v hh
      rw [sliceBounds_nat] at hh
      cases hq : sliceBounds len l h' m' fun a b => some (a, b) with
      | none => rw [hq] at hh; cases hh
      | some q =>
        rw [hq] at hh
        simp only [Option.bind_some] at hh
        cases hh
        exact ⟨rfl, fun m2 => by rw [sliceBounds_nat, hq]; rfl⟩
    split at h <;> try (cases h; done)
    rename_i l hh m hl hhi hm
    split at h <;> try (cases h; done)
    rename_i row hT
    split at h
    · rename_i s hk hx
      obtain ⟨k1, k2⟩ := key _ _ _ _ _ _ _ _ h
      refine ⟨k1, fun m' hs => ?_⟩
      first | exact k2 m' | (simp only [hl, hhi, hm, hT, hk, hx]; exact k2 m')
    · rename_i e' e xs0 mm hk hx
      split at h <;> try (cases h; done)
      rename_i er hE
      split at h <;> try (cases h; done)
      rename_i xs hc
      obtain ⟨k1, k2⟩ := key _ _ _ _ _ _ _ _ h
      refine ⟨k1, fun m' hs => ?_⟩
      first | exact k2 m' | (simp only [hl, hhi, hm, hT, hk, hx, hE, hc]; exact k2 m')
    · rename_i e' b mm hk hx
      split at h <;> try (cases h; done)
      rename_i er hE
      split at h <;> try (cases h; done)
      rename_i lv tid e xs0 hmb
      split at h <;> try (cases h; done)
      rename_i xs hc
      obtain ⟨k1, k2⟩ := key _ _ _ _ _ _ _ _ h
      refine ⟨k1, fun m' hs => ?_⟩
      obtain ⟨l', hm'⟩ := hs.row hmb
      simp only [hl, hhi, hm, hT, hk, hx, hE, hm', hc]; exact k2 m'
    · rename_i e' b off len mm hk hx
      split at h <;> try (cases h; done)
      rename_i er hE
      split at h <;> try (cases h; done)
      rename_i lv tid e xs0 hmb
      split at h <;> try (cases h; done)
      rename_i xs hc
      obtain ⟨k1, k2⟩ := key _ _ _ _ _ _ _ _ h
      refine ⟨k1, fun m' hs => ?_⟩
      obtain ⟨l', hm'⟩ := hs.row hmb
      simp only [hl, hhi, hm, hT, hk, hx, hE, hm', hc]; exact k2 m'
    · cases h
  case call c =>
    obtain ⟨callee, args, ts⟩ := c
    cases callee with
    | builtin b =>
      cases b <;> simp only at hB <;> try (cases hB; done)
      simp only [exOp, ho] at h ⊢
      unfold exBuiltin at h ⊢
      simp only [hop] at h ⊢
      split at h <;> try (cases h; done)
      · rename_i x t ha ht
        split at h <;> try (cases h; done)
        rename_i row hT
        split at h
        · rename_i hk hx
          cases h
          exact ⟨rfl, fun m' _ => by simp only [ha, ht, hT, hk, hx]⟩
        · rename_i hk hx
          cases h
          exact ⟨rfl, fun m' _ => by simp only [ha, ht, hT, hk, hx]⟩
        · rename_i b hk hx
          split at h <;> try (cases h; done)
          · rename_i l tid e xs hm
            cases h
            refine ⟨rfl, fun m' hs => ?_⟩
            obtain ⟨l', hm'⟩ := hs.row hm
            simp only [ha, ht, hT, hk, hx, hm']
          · rename_i l t1 t2 e xs oo u hm
            cases h
            refine ⟨rfl, fun m' hs => ?_⟩
            obtain ⟨l', hm'⟩ := hs.deep hm
            simp only [ha, ht, hT, hk, hx, hm']
        · rename_i b off len hk hx
          split at h <;> try (cases h; done)
          rename_i l tid e xs hm
          cases h
          refine ⟨rfl, fun m' hs => ?_⟩
          obtain ⟨l', hm'⟩ := hs.row hm
          simp only [ha, ht, hT, hk, hx, hm']
        · rename_i s hk hx
          cases h
          exact ⟨rfl, fun m' _ => by simp only [ha, ht, hT, hk, hx]⟩
        · cases h
      all_goals first | (cases h; done) | (rename_i hq _ _; cases hq; done) | (rename_i hq _; cases hq; done) | skip
    | _ => cases hB
end Go.PM

/-! PmSwap2 -/
namespace Go.PM
set_option linter.unusedVariables false
set_option linter.unusedSimpArgs false
variable {R : Type} {Γ : Env} {st st' : St} {id : Nat} {o : Oper} {v : PV} {m m1 m' : Nat → Blk}

theorem Sup.ne (h : Sup m m') {b : Nat} (hb : m b ≠ .free) : m' b ≠ .free := by
  intro e
  have := h b hb
  rw [e] at this
  cases hm : m b <;> rw [hm] at this hb <;> simp only [Blk.still] at this <;> first | exact hb rfl | cases this
theorem Sup.trans {m'' : Nat → Blk} (h : Sup m m') (k : Sup m' m'') : Sup m m'' := fun b hb => (k b (h.ne hb)).trans (h b hb)
theorem Sup.upd (m : Nat → Blk) {a : Nat} (ha : m a = .free) (blk : Blk) : Sup m (upd m a blk) := by
  intro b hb
  have e : b ≠ a := fun e => hb (e ▸ ha)
  rw [upd_other _ _ e]
theorem Sup.still (m : Nat → Blk) (fz : List Nat) : Sup m (still fz m) := by
  intro b hb
  rw [still_at]
  split
  · exact Blk.still_still _
  · rfl
theorem upd_comm {α : Type} (f : Nat → α) {i j : Nat} (x y : α) (h : i ≠ j) : upd (upd f i x) j y = upd (upd f j y) i x := by
  funext b
  by_cases e : b = i
  · subst e; rw [upd_other _ _ h, upd_same, upd_same]
  · rw [upd_other _ _ e]
    by_cases e' : b = j
    · subst e'; rw [upd_same, upd_same]
    · rw [upd_other _ _ e', upd_other _ _ e', upd_other _ _ e]
theorem still_upd (fz : List Nat) (m : Nat → Blk) {a : Nat} (h : a ∉ fz) (blk : Blk) : still fz (upd m a blk) = upd (still fz m) a blk := by
  funext b
  rw [still_at]
  by_cases e : b = a
  · subst e; rw [if_neg h, upd_same, upd_same]
  · rw [upd_other _ _ e, upd_other _ _ e, still_at]
theorem still_free {fz : List Nat} {m : Nat → Blk} {a : Nat} (h : m a = .free) : still fz m a = .free := by
  rw [still_at, h]
  split <;> rfl

theorem ofRes_more : ∀ (r : Ty) (fr : List (Option Nat)) (id : Nat) (y : Den r) (m : Nat → Blk) (l : List (Bool × List LV)) (m1 : Nat → Blk), ofRes r fr id y m = some (l, m1) →
    Sup m m1 ∧ ∀ a, (a < id ∨ id + arity r ≤ a) → (m a = .free → m1 a = .free) ∧ ∀ blk, ofRes r fr id y (upd m a blk) = some (l, upd m1 a blk) := by
  intro r
  induction r with
  | unit =>
    intro fr id y m l m1 h
    simp only [ofRes] at h ⊢
    cases h
    exact ⟨Sup.refl _, fun a _ => ⟨fun h => h, fun _ => rfl⟩⟩
  | pair t1 t2 _ ih =>
    intro fr id y m l m1 h
    by_cases hfr : fr.headD none = none
    · have e : ∀ m, ofRes (.pair t1 t2) fr id y m = (match ofRes t2 fr.tail (id + 1) y.2 m with | some (l, m') => some ((t1.agg, cellsD t1 y.1) :: l, m') | none => none) := by
        intro m
        cases fr with
        | nil => cases t1 <;> rfl
        | cons f fr => simp at hfr; subst hfr; cases t1 <;> rfl
      rw [e] at h
      split at h <;> try (cases h; done)
      rename_i l1 m2 h2
      cases h
      obtain ⟨k1, k2⟩ := ih _ _ _ _ _ _ h2
      refine ⟨k1, fun a ha => ⟨(k2 a (by simp only [arity] at ha; omega)).1, fun blk => ?_⟩⟩
      rw [e, (k2 a (by simp only [arity] at ha; omega)).2 blk]
    · cases fr with
      | nil => exact absurd rfl hfr
      | cons f fr =>
        cases f with
        | none => exact absurd rfl hfr
        | some tid =>
          cases t1 with
          | sl e =>
            simp only [ofRes] at h ⊢
            split at h <;> try (cases h; done)
            rename_i hf
            split at h <;> try (cases h; done)
            rename_i l1 m2 h2
            cases h
            obtain ⟨k1, k2⟩ := ih _ _ _ _ _ _ h2
            refine ⟨(Sup.upd m hf _).trans k1, fun a ha => ?_⟩
            have ha' : a < id + 1 ∨ id + 1 + arity t2 ≤ a := by simp only [arity] at ha; omega
            have hne : a ≠ id := by simp only [arity] at ha; omega
            refine ⟨fun hm => (k2 a ha').1 (by rw [upd_other _ _ hne]; exact hm), fun blk => ?_⟩
            rw [upd_other _ _ hne.symm, hf]
            simp only
            rw [upd_comm _ _ _ hne, (k2 a ha').2 blk]
          | _ => simp only [ofRes, List.headD_cons] at h; cases h
  | _ => intro fr id y m l m1 h; simp only [ofRes] at h; cases h

theorem exPlain_more {p r : Ty} {fr : List (Option Nat)} {f : Den p → Option (Den r)} {args : List PV} (hr : arity r ≤ 4) (h : (exPlain id p r fr f args st fun v s => some (v, s.m)) = some (v, m1)) :
    Sup st.m m1 ∧ ∀ a, (a < id ∨ id + 4 ≤ a) → st.m a = .free → m1 a = .free ∧ ∀ blk, (exPlain id p r fr f args { st with m := upd st.m a blk } fun v s => some (v, s.m)) = some (v, upd m1 a blk) := by
  unfold exPlain at h ⊢
  split at h <;> try (cases h; done)
  rename_i x fz hx
  cases hf : f x with
  | none => rw [hf] at h; cases h
  | some z =>
    rw [hf] at h
    simp only [Option.bind_some] at h
    split at h <;> try (cases h; done)
    rename_i l m2 hl
    cases h
    obtain ⟨k1, k2⟩ := ofRes_more _ _ _ _ _ _ _ hl
    refine ⟨(Sup.still _ fz).trans k1, fun a ha hm => ?_⟩
    have k3 := k2 a (by omega)
    have hfz : a ∉ fz := fun e => (toArgs_sup (Sup.refl _) _ _ _ _ hx).2 a e hm
    refine ⟨k3.1 (still_free hm), fun blk => ?_⟩
    have hx' := (toArgs_sup (Sup.upd st.m hm blk) _ _ _ _ hx).1
    simp only [hx', hf, Option.bind_some, still_upd fz st.m hfz blk, k3.2 blk]
theorem ofRes_none : ∀ (r : Ty) (fr : List (Option Nat)), (fr.all fun q => match q with | none => true | some _ => false) = true → ∀ (id : Nat) (y : Den r) (m m' : Nat → Blk), ofRes r fr id y m' = (ofRes r fr id y m).map fun q => (q.1, m') := by
  intro r
  induction r with
  | unit => intro fr _ id y m m'; cases fr <;> rfl
  | pair a b _ ih =>
    intro fr hf id y m m'
    have hh : fr.headD none = none := by
      cases fr with
      | nil => rfl
      | cons q fr => cases q with
        | none => rfl
        | some t => simp at hf
    have ht : (fr.tail.all fun q => match q with | none => true | some _ => false) = true := by
      cases fr with
      | nil => rfl
      | cons q fr => simp only [List.all_cons, Bool.and_eq_true] at hf; exact hf.2
    have e1 : ∀ mm, ofRes (.pair a b) fr id y mm = (match ofRes b fr.tail (id + 1) y.2 mm with
        | some (l, m') => some ((a.agg, cellsD a y.1) :: l, m')
        | none => none) := by
      intro mm
      cases fr with
      | nil => cases a <;> rfl
      | cons q fr =>
        cases q with
        | none => cases a <;> rfl
        | some t => simp at hf
    rw [e1, e1, ih fr.tail ht (id + 1) y.2 m m']
    cases ofRes b fr.tail (id + 1) y.2 m <;> rfl
  | _ => intro fr _ id y m m'; cases fr <;> rfl
theorem exCall_more {f : PV} {args : List PV} (h : (exCall Γ id f args st fun v s => some (v, s.m)) = some (v, m1)) :
    Sup st.m m1 ∧ ∀ a, (a < id ∨ id + 4 ≤ a) → st.m a = .free → m1 a = .free ∧ ∀ blk, (exCall Γ id f args { st with m := upd st.m a blk } fun v s => some (v, s.m)) = some (v, upd m1 a blk) := by
  unfold exCall at h ⊢
  split at h <;> try (cases h; done)
  rename_i p r F
  split at h <;> try (cases h; done)
  rename_i x fz hx
  cases hf : F x with
  | none => rw [hf] at h; cases h
  | some z =>
    rw [hf] at h
    simp only [Option.bind_some] at h
    split at h <;> try (cases h; done)
    rename_i l m2 hl
    cases h
    have hn := fun m' => ofRes_none r [] rfl id z (still fz st.m) m'
    have e1 : m1 = still fz st.m := by
      have := hn (still fz st.m)
      rw [hl] at this
      simp only [Option.map_some, Option.some.injEq, Prod.mk.injEq] at this
      exact this.2
    subst e1
    refine ⟨Sup.still _ fz, fun a ha hm => ?_⟩
    have hfz : a ∉ fz := fun e => (toArgs_sup (Sup.refl _) _ _ _ _ hx).2 a e hm
    refine ⟨still_free hm, fun blk => ?_⟩
    have hx' := (toArgs_sup (Sup.upd st.m hm blk) _ _ _ _ hx).1
    simp only [hx', hf, Option.bind_some, still_upd fz st.m hfz blk, hn (upd (still fz st.m) a blk), hl, Option.map_some]

theorem opR_Add (hA : isAdd o.op = true) (h : opR Γ id o st = some (v, m1)) : st.m id = .free ∧ ∃ blk, m1 = upd st.m id blk ∧ ∀ m', m' id = .free → opR Γ id o { st with m := m' } = some (v, upd m' id blk) := by
  unfold opR at *
  have hop : ∀ m' x, operand Γ { st with m := m' } x = operand Γ st x := fun m' x => by cases x <;> rfl
  cases ho : o.op <;> rw [ho] at hA <;> simp only [isAdd] at hA <;> try (cases hA; done)
  case alloc e =>
    simp only [exOp, ho] at h ⊢
    split at h <;> try (cases h; done)
    rename_i row hT hf
    cases h
    exact ⟨hf, _, rfl, fun m' hm' => by simp only [hT, hm']⟩
  case box e x =>
    simp only [exOp, ho, hop] at h ⊢
    split at h <;> try (cases h; done)
    rename_i row g cs hT hx hf
    obtain ⟨hb, h⟩ := bif_none h
    cases h
    exact ⟨hf, _, rfl, fun m' hm' => by simp only [hT, hx, hm', hb, cond_true]⟩
  case makeSlice t lo co =>
    simp only [exOp, ho, hop] at h ⊢
    obtain ⟨hs, h⟩ := bif_none h
    split at h <;> try (cases h; done)
    rename_i row n hT hn hf
    split at h <;> try (cases h; done)
    rename_i e hk
    split at h <;> try (cases h; done)
    rename_i er hE
    obtain ⟨hb, h⟩ := bif_none h
    obtain ⟨h0, h⟩ := cond_none h
    obtain ⟨h1, h⟩ := cond_none h
    cases h
    exact ⟨hf, _, rfl, fun m' hm' => by simp only [hs, hT, hn, hm', hk, hE, hb, decide_eq_true h0, decide_eq_true h1, cond_true]⟩

theorem partsR_sup (hs : Sup st.m m') {e : Ty} : ∀ (l : List (Nat × Operand)) (n : Nat) (xs : List (Den e)) (fz : List Nat), partsR Γ st e l n = some (xs, fz) → partsR Γ { st with m := m' } e l n = some (xs, fz) ∧ ∀ b ∈ fz, st.m b ≠ .free := by
  have hop : ∀ x, operand Γ { st with m := m' } x = operand Γ st x := fun x => by cases x <;> rfl
  intro l
  induction l with
  | nil => intro n xs fz h; simp only [partsR] at h ⊢; cases h; exact ⟨rfl, fun b hb => by cases hb⟩
  | cons q l ih =>
    obtain ⟨i, o⟩ := q
    intro n xs fz h
    simp only [partsR, hop] at h ⊢
    obtain ⟨hi, h⟩ := bif_none h
    rw [hi]
    simp only [cond_true]
    split at h <;> try (cases h; done)
    rename_i g cs hc
    obtain ⟨hg, h⟩ := bif_none h
    split at h <;> try (cases h; done)
    rename_i x f hd
    split at h <;> try (cases h; done)
    rename_i ys f2 hr
    cases h
    obtain ⟨a1, b1⟩ := toDen_sup hs _ _ _ _ _ hd
    obtain ⟨a2, b2⟩ := ih _ _ _ hr
    simp only [hg, cond_true, a1, a2]
    exact ⟨trivial, fun b hb => (List.mem_append.1 hb).elim (b1 b) (b2 b)⟩
theorem opR_C (hC : isC Γ o.op = true) (h : opR Γ id o st = some (v, m1)) :
    Sup st.m m1 ∧ ∀ a, (a < id ∨ id + 4 ≤ a) → st.m a = .free → m1 a = .free ∧ ∀ blk, opR Γ id o { st with m := upd st.m a blk } = some (v, upd m1 a blk) := by
  have add : isAdd o.op = true → Sup st.m m1 ∧ ∀ a, (a < id ∨ id + 4 ≤ a) → st.m a = .free → m1 a = .free ∧ ∀ blk, opR Γ id o { st with m := upd st.m a blk } = some (v, upd m1 a blk) := by
    intro hA
    obtain ⟨hf, blk, rfl, hall⟩ := opR_Add hA h
    refine ⟨Sup.upd _ hf _, fun a ha hm => ?_⟩
    have hne : a ≠ id := by omega
    refine ⟨by rw [upd_other _ _ hne]; exact hm, fun b => ?_⟩
    rw [hall _ (by rw [upd_other _ _ hne.symm]; exact hf), upd_comm _ _ _ hne]
  cases ho : o.op <;> rw [ho] at hC <;> simp only [isC] at hC <;> try (cases hC; done)
  case alloc e => exact add (by rw [ho]; rfl)
  case box e x => exact add (by rw [ho]; rfl)
  case makeSlice t lo co => exact add (by rw [ho]; rfl)
  case buildSlice t len parts =>
    unfold opR at *
    simp only [exOp, ho] at h ⊢
    split at h <;> try (cases h; done)
    rename_i row hT hf
    split at h <;> try (cases h; done)
    rename_i e hk
    split at h <;> try (cases h; done)
    rename_i er hE
    split at h <;> try (cases h; done)
    rename_i xs fz hp
    obtain ⟨hb, h⟩ := bif_none h
    cases h
    obtain ⟨_, hne⟩ := partsR_sup (Sup.refl st.m) _ _ _ _ hp
    refine ⟨(Sup.still st.m fz).trans (Sup.upd _ (still_free hf) _), fun a ha hm => ?_⟩
    have hai : a ≠ id := by omega
    refine ⟨by rw [upd_other _ _ hai]; exact still_free hm, fun blk => ?_⟩
    obtain ⟨hp', _⟩ := partsR_sup (m' := upd st.m a blk) (Sup.upd st.m hm blk) _ _ _ _ hp
    have hf' : upd st.m a blk id = .free := by rw [upd_other _ _ hai.symm]; exact hf
    have hafz : a ∉ fz := fun h => hne a h hm
    simp only [hT, hf', hk, hE, hp', hb, cond_true]
    rw [still_upd fz st.m hafz blk, upd_comm _ _ _ hai]
  case call c =>
    unfold opR at *
    have hop : ∀ m' x, operand Γ { st with m := m' } x = operand Γ st x := fun m' x => by cases x <;> rfl
    obtain ⟨callee, args, ts⟩ := c
    cases callee with
    | value f =>
      cases f with
      | func g =>
        simp only at hC
        simp only [exOp, ho] at h ⊢
        have hmap : ∀ m', args.toList.map (operand Γ { st with m := m' }) = args.toList.map (operand Γ st) := fun m' => List.map_congr_left fun x _ => hop m' x
        simp only [hmap]
        unfold exFunc at h ⊢
        split at h <;> try (cases h; done)
        rename_i E hE
        rw [hE] at hC
        simp only at hC
        cases hwin : E.win with
        | some tid => rw [hwin] at hC; cases hC
        | none =>
          rw [hwin] at h hC
          simp only at h hC ⊢
          exact exPlain_more (Nat.le_of_ble_eq_true hC) h
      | tmp t =>
        simp only [exOp, ho] at h ⊢
        have hmap : ∀ m', args.toList.map (operand Γ { st with m := m' }) = args.toList.map (operand Γ st) := fun m' => List.map_congr_left fun x _ => hop m' x
        simp only [hmap, hop]
        exact exCall_more h
      | _ => cases hC
    | _ => cases hC

theorem toArgs_scal : ∀ (p : Ty), scal p = true → ∀ (l : List PV) (m m' : Nat → Blk), toArgs m p l = toArgs m' p l ∧ ∀ x fz, toArgs m p l = some (x, fz) → fz = [] := by
  intro p
  induction p with
  | unit =>
    intro _ l m m'
    cases l
    · exact ⟨rfl, fun x fz h => by simp only [toArgs] at h; cases h; rfl⟩
    · exact ⟨rfl, fun x fz h => by simp only [toArgs] at h; cases h⟩
  | pair a b _ ih =>
    intro h l m m'
    have hb : scal b = true := by cases a <;> simp only [scal] at h <;> first | exact h | cases h
    have hd : ∀ cs, toDen m a cs = toDen m' a cs ∧ ∀ x f r, toDen m a cs = some (x, f, r) → f = [] := by
      intro cs
      cases a <;> simp only [scal] at h <;> try (cases h; done)
      all_goals
        cases cs with
        | nil => simp only [toDen]; exact ⟨trivial, fun x f r h => by cases h⟩
        | cons c cs =>
          cases c <;> simp only [toDen] <;> first
            | exact ⟨trivial, fun x f r h => by cases h <;> rfl⟩
            | exact ⟨trivial, fun x f r h => by (split at h) <;> cases h <;> rfl⟩
    cases l with
    | nil => cases a <;> exact ⟨rfl, fun x fz h => by simp only [toArgs] at h; cases h⟩
    | cons v vs =>
      obtain ⟨i1, i2⟩ := ih hb vs m m'
      have e1 : ∀ mm, toArgs mm (.pair a b) (v :: vs) = (match v.cells with
          | some (g, cs) => bif g == a.agg then match toDen mm a cs with
            | some (x, f, []) => match toArgs mm b vs with
              | some (y, h) => some ((x, y), f ++ h)
              | none => none
            | _ => none
            else none
          | none => none) := fun mm => by cases a <;> rfl
      rw [e1, e1]
      constructor
      · cases v.cells with
        | none => rfl
        | some q => obtain ⟨g, cs⟩ := q; simp only [(hd cs).1, i1]
      · intro x fz hh
        split at hh <;> try (cases hh; done)
        rename_i g cs hc
        obtain ⟨_, hh⟩ := bif_none hh
        split at hh <;> try (cases hh; done)
        rename_i x1 f1 h1
        split at hh <;> try (cases hh; done)
        rename_i y1 f2 h2
        cases hh
        rw [(hd cs).2 _ _ _ h1, i2 _ _ h2]; rfl
  | _ => intro h; simp only [scal] at h; cases h
theorem opR_A2 (h : isA2 Γ o.op = true) : opR Γ id o { st with m := m' } = (opR Γ id o st).map fun q => (q.1, m') := by
  unfold isA2 at h
  cases hA : isA o.op with
  | true => exact opR_A hA
  | false =>
    rw [hA, Bool.false_or] at h
    unfold opR
    have hop : ∀ x, operand Γ { st with m := m' } x = operand Γ st x := fun x => by cases x <;> rfl
    cases ho : o.op <;> rw [ho] at h <;> simp only [isK] at h <;> try (cases h; done)
    case call c =>
      obtain ⟨callee, args, ts⟩ := c
      cases callee with
      | value f =>
        cases f with
        | func g =>
          simp only at h
          simp only [exOp, ho]
          have hmap : args.toList.map (operand Γ { st with m := m' }) = args.toList.map (operand Γ st) := List.map_congr_left fun x _ => hop x
          rw [hmap]
          unfold exFunc
          cases hE : Γ.Φ g with
          | none => rfl
          | some E =>
            rw [hE] at h
            simp only at h ⊢
            cases hw : E.win with
            | some t => rw [hw] at h; cases h
            | none =>
              rw [hw] at h
              simp only [Bool.and_eq_true] at h ⊢
              unfold exPlain
              simp only
              obtain ⟨k1, k2⟩ := toArgs_scal E.p h.1 (args.toList.map (operand Γ st)) st.m m'
              rw [← k1]
              cases ht : toArgs st.m E.p (args.toList.map (operand Γ st)) with
              | none => rfl
              | some q =>
                obtain ⟨x, fz⟩ := q
                have := k2 x fz ht
                subst this
                simp only [still]
                cases E.f x with
                | none => rfl
                | some y =>
                  simp only [Option.bind_some]
                  rw [ofRes_none E.r E.fresh h.2 id y st.m m']
                  cases hor : ofRes E.r E.fresh id y st.m with
                  | none => rfl
                  | some q =>
                    obtain ⟨l, mm⟩ := q
                    have hmm := ofRes_none E.r E.fresh h.2 id y st.m st.m
                    rw [hor] at hmm
                    simp only [Option.map_some, Option.some.injEq, Prod.mk.injEq] at hmm
                    simp only [Option.map_some]
        | _ => cases h
      | _ => cases h
end Go.PM

/-! PmDraw -/
namespace Go.PM
open Go.RowKit
set_option linter.unusedVariables false
set_option linter.unusedSimpArgs false
variable {R : Type} {Γ : Env} {st st' : St} {id : Nat} {o : Oper} {v : PV} {m m1 m' : Nat → Blk} {ops : Array Oper}

/-- Is the operation wanted? -/
def gst (ops : Array Oper) (o : Oper) (st : St) : Option Bool :=
  match o.guard with
  | none => some true
  | some (j, want) => match ops[j]? with
    | some oj => match oj.dst with
      | some d => match st.t d with
        | .one (.bool b) => some (b == want)
        | .no => some false
        | _ => none
      | none => none
    | none => none
def actR (Γ : Env) (ops : Array Oper) (id : Nat) (o : Oper) (st : St) : Option (PV × (Nat → Blk)) :=
  match gst ops o st with
  | some true => opR Γ id o st
  | some false => some (.no, st.m)
  | none => none

theorem exGuard_eq (id : Nat) (o : Oper) (st : St) (k : St → Option R) : exGuard Γ ops id o st k = (actR Γ ops id o st).bind fun q => put { st with m := q.2 } o.dst q.1 k := by
  unfold exGuard actR gst
  cases hg : o.guard with
  | none => simp only; rw [exOp_nat]
  | some jw =>
    obtain ⟨j, want⟩ := jw
    simp only
    cases hj : ops[j]? with
    | none => rfl
    | some oj =>
      simp only
      cases hd : oj.dst with
      | none => rfl
      | some d =>
        simp only
        have est : ∀ v, st.t d = .one (.bool v) → ({ st with t := upd st.t d (.one (.bool v)) } : St) = st := by
          intro v hv
          rw [← hv, upd_self]
        cases hb : st.t d with
        | one u =>
          cases u with
          | bool b =>
            cases b <;> cases want <;> simp only [cond_true, cond_false, est _ hb] <;> first | (rw [exOp_nat]; rfl) | rfl
          | _ => rfl
        | no => rfl
        | _ => rfl

def putS (st : St) (dst : Option Tmp) (v : PV) : St :=
  match dst with
  | some d => { st with t := upd st.t d v }
  | none => st
def putOK (st : St) (dst : Option Tmp) : Bool :=
  match dst with
  | some d => Nat.blt d st.n
  | none => true
theorem put_eq (st : St) (dst : Option Tmp) (v : PV) (k : St → Option R) : put st dst v k = bif putOK st dst then k (putS st dst v) else none := by
  cases dst <;> rfl

def actI (Γ : Env) (ops : Array Oper) (nx i : Nat) (st : St) : Option St :=
  match ops[i]? with
  | some o => exGuard Γ ops (nx + 4 * i) o st some
  | none => none
def runL (Γ : Env) (ops : Array Oper) (nx : Nat) : List Nat → St → Option St
  | [], st => some st
  | i :: l, st => (actI Γ ops nx i st).bind (runL Γ ops nx l)

theorem exGuard_nat (id : Nat) (o : Oper) (st : St) (k : St → Option R) : exGuard Γ ops id o st k = (exGuard Γ ops id o st some).bind k := by
  rw [exGuard_eq, exGuard_eq (k := some), Option.bind_assoc]
  congr 1
  funext q
  rw [put_eq, put_eq]
  cases putOK { st with m := q.2 } o.dst <;> rfl

theorem gst_frame {d : Nat} (h : d ∉ o.looksAt ops) (x : PV) : gst ops o { st with t := upd st.t d x, m := m' } = gst ops o st := by
  unfold gst
  cases hg : o.guard with
  | none => rfl
  | some jw =>
    obtain ⟨j, want⟩ := jw
    simp only
    cases hj : ops[j]? with
    | none => rfl
    | some oj =>
      simp only
      cases hd : oj.dst with
      | none => rfl
      | some e =>
        have hne : e ≠ d := by
          intro e'
          apply h
          simp only [Oper.looksAt, hg, hj, Option.bind_some, hd, List.mem_append]
          right
          simp [e']
        simp only [upd_other _ _ hne]

theorem operand_frame {d : Nat} {x : Operand} (h : x ≠ .tmp d) (u : PV) : operand Γ { st with t := upd st.t d u, m := m' } x = operand Γ { st with m := m' } x := by
  cases x with
  | tmp e =>
    have hne : e ≠ d := fun e' => h (by rw [e'])
    exact upd_other _ _ hne
  | _ => rfl

theorem actR_frame {d : Nat} (h : d ∉ o.looksAt ops) (x : PV) : actR Γ ops id o { st with t := upd st.t d x, m := m' } = actR Γ ops id o { st with m := m' } := by
  unfold actR
  have e : gst ops o { st with m := m' } = gst ops o st := by
    have := gst_frame (st := st) (m' := m') h (st.t d)
    rwa [upd_self] at this
  rw [gst_frame h, e]
  have : opR Γ id o { st with t := upd st.t d x, m := m' } = opR Γ id o { st with m := m' }   := opR_congr (st := { st with m := m' }) (st' := { st with t := upd st.t d x, m := m' }) rfl fun y hy => operand_frame (fun e => by
    subst e
    apply h
    simp only [Oper.looksAt, List.mem_append]
    left
    exact List.mem_filterMap.2 ⟨.tmp d, by simpa using hy, rfl⟩) x
  rw [this]

theorem actR_A (hA : isA2 Γ o.op = true) : actR Γ ops id o { st with m := m' } = (actR Γ ops id o st).map fun q => (q.1, m') := by
  unfold actR
  rw [show gst ops o { st with m := m' } = gst ops o st from rfl]
  split
  · exact opR_A2 hA
  · rfl
  · rfl
theorem actR_A_m (hA : isA2 Γ o.op = true) (h : actR Γ ops id o st = some (v, m1)) : m1 = st.m := by
  have := actR_A (Γ := Γ) (ops := ops) (id := id) (st := st) (m' := st.m) hA
  rw [show ({ st with m := st.m } : St) = st from rfl, h] at this
  simp only [Option.map_some, Option.some.injEq, Prod.mk.injEq] at this
  exact this.2

/-- The memory's part of a change of places. -/
theorem actR_swap {i j nx : Nat} (hij : i ≠ j) {x y : Oper} (hp : (isA2 Γ x.op || (isA2 Γ y.op || ((isB x.op && (isB y.op || isC Γ y.op)) || (isC Γ x.op && isAdd y.op)))) = true) {vx vy : PV} {mx my : Nat → Blk}
    (hx : actR Γ ops (nx + 4 * j) x st = some (vx, mx)) (hy : actR Γ ops (nx + 4 * i) y { st with m := mx } = some (vy, my)) :
    ∃ m2, actR Γ ops (nx + 4 * i) y st = some (vy, m2) ∧ actR Γ ops (nx + 4 * j) x { st with m := m2 } = some (vx, my) := by
  have caseA : isA2 Γ x.op = true → ∃ m2, actR Γ ops (nx + 4 * i) y st = some (vy, m2) ∧ actR Γ ops (nx + 4 * j) x { st with m := m2 } = some (vx, my) := by
    intro hA
    have e := actR_A_m hA hx
    subst e
    refine ⟨my, hy, ?_⟩
    rw [actR_A hA, hx]; rfl
  have caseA' : isA2 Γ y.op = true → ∃ m2, actR Γ ops (nx + 4 * i) y st = some (vy, m2) ∧ actR Γ ops (nx + 4 * j) x { st with m := m2 } = some (vx, my) := by
    intro hA
    have e := actR_A_m hA hy
    simp only at e
    subst e
    rw [actR_A hA] at hy
    cases hq : actR Γ ops (nx + 4 * i) y st with
    | none => rw [hq] at hy; cases hy
    | some q =>
      rw [hq] at hy
      obtain ⟨q1, q2⟩ := q
      simp only [Option.map_some, Option.some.injEq, Prod.mk.injEq, and_true] at hy
      subst hy
      have e := actR_A_m hA hq
      subst e
      exact ⟨_, rfl, hx⟩
  simp only [Bool.or_eq_true, Bool.and_eq_true] at hp
  rcases hp with hp | hp | ⟨hB, hp⟩ | ⟨hC, hA⟩
  · exact caseA hp
  · exact caseA' hp
  · -- the first one only reads
    unfold actR at hx hy ⊢
    have hgx : ∀ m', gst ops x { st with m := m' } = gst ops x st := fun _ => rfl
    have hgy : ∀ m', gst ops y { st with m := m' } = gst ops y st := fun _ => rfl
    simp only [hgx, hgy] at hx hy ⊢
    cases gx : gst ops x st with
    | none => rw [gx] at hx; cases hx
    | some bx =>
      rw [gx] at hx
      cases bx with
      | false =>
        simp only at hx
        cases hx
        exact ⟨my, hy, by simp only⟩
      | true =>
        simp only at hx ⊢
        obtain ⟨e, hall⟩ := opR_B hB hx
        subst e
        refine ⟨my, hy, hall my ?_⟩
        cases gy : gst ops y st with
        | none => rw [gy] at hy; cases hy
        | some by' =>
          rw [gy] at hy
          cases by' with
          | false => simp only at hy; cases hy; exact Sup.refl _
          | true =>
            simp only at hy
            rcases hp with hp | hp
            · obtain ⟨e, _⟩ := opR_B hp hy
              rw [e]; exact Sup.refl _
            · exact (opR_C hp hy).1
  · -- the second one lays one block
    unfold actR at hx hy ⊢
    have hgx : ∀ m', gst ops x { st with m := m' } = gst ops x st := fun _ => rfl
    have hgy : ∀ m', gst ops y { st with m := m' } = gst ops y st := fun _ => rfl
    simp only [hgx, hgy] at hx hy ⊢
    cases gy : gst ops y st with
    | none => rw [gy] at hy; cases hy
    | some by' =>
      rw [gy] at hy
      cases by' with
      | false =>
        simp only at hy ⊢
        cases hy
        exact ⟨st.m, rfl, hx⟩
      | true =>
        simp only at hy ⊢
        obtain ⟨hf, blk, e, hall⟩ := opR_Add hA hy
        simp only at hf e
        subst e
        cases gx : gst ops x st with
        | none => rw [gx] at hx; cases hx
        | some bx =>
          rw [gx] at hx
          cases bx with
          | false =>
            simp only at hx
            cases hx
            exact ⟨_, hy, rfl⟩
          | true =>
            simp only at hx ⊢
            obtain ⟨hsup, hloc⟩ := opR_C hC hx
            have hfree : st.m (nx + 4 * i) = .free := by
              cases hm : st.m (nx + 4 * i) with
              | free => rfl
              | _ => exact absurd hf (hsup.ne (by rw [hm]; intro e; cases e))
            obtain ⟨_, h2⟩ := hloc (nx + 4 * i) (by omega) hfree
            exact ⟨_, hall st.m hfree, h2 blk⟩

/-- What stays true of a state while a region is gone through. -/
def okP (v : PV) (b : Nat) : Prop := v = .undef ∨ v = .no ∨ ∃ c, v = .one (.vptr b c)
structure Inv (st0 : St) (ops : Array Oper) (s : St) : Prop where
  same : ∀ q, unwritten ops q = true → s.t q = st0.t q
  root : ∀ p b, rooted st0 ops p b = true → okP (s.t p) b
  safe : ∀ f p, safeT st0 ops f p = true → sv (s.t p) = true
theorem atBlk_is {v : PV} {b : Nat} (h : atBlk v b = true) : ∃ c, v = .one (.vptr b c) := by
  unfold atBlk at h
  split at h
  · exact ⟨_, by rw [Nat.eq_of_beq_eq_true h]⟩
  · cases h
theorem isUndef_is {v : PV} (h : isUndef v = true) : v = .undef := by
  unfold isUndef at h
  split at h
  · rfl
  · cases h
theorem Inv.refl (st0 : St) (ops : Array Oper) : Inv st0 ops st0 := ⟨fun _ _ => rfl, fun p b h => by
  unfold rooted at h
  simp only [Bool.and_eq_true, Bool.or_eq_true] at h
  rcases h.1 with h | h
  · exact .inr (.inr (atBlk_is h))
  · exact .inl (isUndef_is h), fun f p h => by
  cases f <;> (unfold safeT at h; simp only [Bool.and_eq_true] at h; exact h.1)⟩
theorem opR_fieldAddr {t : Nat} {x : Operand} {f : Nat} {b c : Nat} (ho : o.op = .fieldAddr t x f) (hx : operand Γ st x = .one (.vptr b c)) (h : opR Γ id o st = some (v, m1)) : (∃ c', v = .one (.vptr b c')) ∧ m1 = st.m ∧ ∀ m', m' b = st.m b → opR Γ id o { st with m := m' } = some (v, m') := by
  have hx' : ∀ m', operand Γ { st with m := m' } x = .one (.vptr b c) := fun m' => by rw [← hx]; cases x <;> rfl
  unfold opR exOp at h ⊢
  simp only [ho] at h ⊢
  simp only [hx, hx'] at h ⊢
  cases hT : Γ.T t with
  | none => rw [hT] at h; cases h
  | some row =>
    rw [hT] at h
    simp only at h ⊢
    cases hk : row.kind <;> simp only [hk] at h ⊢ <;> try (cases h; done)
    rename_i fs
    cases hf : fs[f]? with
    | none => rw [hf] at h; cases h
    | some ou =>
      obtain ⟨off, u⟩ := ou
      rw [hf] at h
      simp only at h ⊢
      cases hu : Γ.T u with
      | none => rw [hu] at h; cases h
      | some ur =>
        rw [hu] at h
        simp only at h ⊢
        cases hm : st.m b <;> rw [hm] at h <;> simp only at h <;> try (cases h; done)
        cases hz : Nat.beq ur.ty.size 0 with
        | true => rw [hz] at h; cases h
        | false =>
          rw [hz] at h
          simp only [cond_false, Option.some.injEq, Prod.mk.injEq] at h
          obtain ⟨e1, e2⟩ := h
          subst e1
          subst e2
          exact ⟨⟨_, rfl⟩, rfl, fun m' hm' => by rw [hm']; rfl⟩
theorem opR_load {t : Nat} {x : Operand} {b c : Nat} (ho : o.op = .load t x) (hx : operand Γ st x = .one (.vptr b c)) (h : opR Γ id o st = some (v, m1)) : m1 = st.m ∧ ∀ m', m' b = st.m b → opR Γ id o { st with m := m' } = some (v, m') := by
  have hx' : ∀ m', operand Γ { st with m := m' } x = .one (.vptr b c) := fun m' => by rw [← hx]; cases x <;> rfl
  unfold opR exOp at h ⊢
  simp only [ho] at h ⊢
  simp only [hx, hx'] at h ⊢
  cases hT : Γ.T t with
  | none => rw [hT] at h; cases h
  | some row =>
    rw [hT] at h
    simp only at h ⊢
    cases hm : st.m b <;> rw [hm] at h <;> simp only at h <;> try (cases h; done)
    rename_i l cs
    cases hz : Nat.ble (c + row.ty.size) cs.length with
    | false => rw [hz] at h; cases h
    | true =>
      rw [hz] at h
      simp only [cond_true] at h
      rw [seen_eq] at h
      simp only [Option.some.injEq, Prod.mk.injEq] at h
      obtain ⟨e1, e2⟩ := h
      subst e1
      subst e2
      refine ⟨rfl, fun m' hm' => ?_⟩
      rw [hm']
      simp only [hz, cond_true]
      rw [seen_eq]
theorem opR_loadV {t : Nat} {x : Operand} {b c : Nat} (ho : o.op = .load t x) (hx : operand Γ st x = .one (.vptr b c)) (h : opR Γ id o st = some (v, m1)) : ∃ l cs, st.m b = .var l cs := by
  unfold opR exOp at h
  simp only [ho, hx] at h
  cases hT : Γ.T t with
  | none => rw [hT] at h; cases h
  | some row =>
    rw [hT] at h
    simp only at h
    cases hm : st.m b <;> rw [hm] at h <;> first | exact ⟨_, _, rfl⟩ | (cases h; done)
theorem opR_fieldV {t : Nat} {x : Operand} {f : Nat} {b c : Nat} (ho : o.op = .fieldAddr t x f) (hx : operand Γ st x = .one (.vptr b c)) (h : opR Γ id o st = some (v, m1)) : ∃ l cs, st.m b = .var l cs := by
  unfold opR exOp at h
  simp only [ho, hx] at h
  cases hT : Γ.T t with
  | none => rw [hT] at h; cases h
  | some row =>
    rw [hT] at h
    simp only at h
    cases hk : row.kind <;> simp only [hk] at h <;> try (cases h; done)
    rename_i fs
    cases hf : fs[f]? with
    | none => rw [hf] at h; cases h
    | some ou =>
      obtain ⟨off, u⟩ := ou
      rw [hf] at h
      simp only at h
      cases hu : Γ.T u with
      | none => rw [hu] at h; cases h
      | some ur =>
        rw [hu] at h
        simp only at h
        cases hm : st.m b <;> rw [hm] at h <;> first | exact ⟨_, _, rfl⟩ | (cases h; done)
theorem opR_store {t : Nat} {x y : Operand} {b c : Nat} (ho : o.op = .store t x y) (hx : operand Γ st x = .one (.vptr b c)) (h : opR Γ id o st = some (v, m1)) : ∃ blk, m1 = upd st.m b blk ∧ ∀ m', m' b = st.m b → opR Γ id o { st with m := m' } = some (v, upd m' b blk) := by
  have hx' : ∀ m', operand Γ { st with m := m' } x = .one (.vptr b c) := fun m' => by rw [← hx]; cases x <;> rfl
  have hy' : ∀ m', operand Γ { st with m := m' } y = operand Γ st y := fun m' => by cases y <;> rfl
  unfold opR exOp at h ⊢
  simp only [ho] at h ⊢
  simp only [hx, hx', hy'] at h ⊢
  cases hT : Γ.T t with
  | none => rw [hT] at h; cases h
  | some row =>
    rw [hT] at h
    cases hc : (operand Γ st y).cells with
    | none => rw [hc] at h; cases h
    | some gd =>
      obtain ⟨g, ds⟩ := gd
      rw [hc] at h
      simp only at h ⊢
      cases hg : (g == row.ty.agg && Nat.beq ds.length row.ty.size) with
      | false => rw [hg] at h; cases h
      | true =>
        rw [hg] at h
        simp only [cond_true] at h ⊢
        cases hm : st.m b <;> rw [hm] at h <;> try (cases h; done)
        rename_i l cs
        cases l with
        | false => cases h
        | true =>
          simp only at h
          cases hz : Nat.ble (c + ds.length) cs.length with
          | false => rw [hz] at h; cases h
          | true =>
            rw [hz] at h
            simp only [cond_true, Option.some.injEq, Prod.mk.injEq] at h
            obtain ⟨e1, e2⟩ := h
            subst e1
            subst e2
            refine ⟨_, rfl, fun m' hm' => ?_⟩
            rw [hm']
            simp only [hz, cond_true]
/-- What is made of a block. -/
def app (b : Nat) (w : Option Blk) (m : Nat → Blk) : Nat → Blk := match w with
  | some blk => upd m b blk
  | none => m
theorem opR_place {p : Operand} {b c : Nat} (ho : placeOf o.op = some p) (hx : operand Γ st p = .one (.vptr b c)) (h : opR Γ id o st = some (v, m1)) : ∃ w, m1 = app b w st.m ∧ ∀ m', m' b = st.m b → opR Γ id o { st with m := m' } = some (v, app b w m') := by
  unfold placeOf at ho
  split at ho <;> try (cases ho; done)
  · rename_i t p' y e
    cases ho
    obtain ⟨blk, e1, e2⟩ := opR_store e hx h
    exact ⟨some blk, e1, e2⟩
  · rename_i t p' e
    cases ho
    obtain ⟨e1, e2⟩ := opR_load e hx h
    exact ⟨none, e1, e2⟩
  · rename_i t p' f e
    cases ho
    obtain ⟨_, e1, e2⟩ := opR_fieldAddr e hx h
    exact ⟨none, e1, e2⟩
theorem opR_placeless {p : Operand} (ho : placeOf o.op = some p) (hx : operand Γ st p = .undef ∨ operand Γ st p = .no) : opR Γ id o st = none := by
  unfold placeOf at ho
  split at ho <;> try (cases ho; done)
  all_goals
    cases ho
    rename_i e
    unfold opR exOp
    simp only [e]
    rcases hx with hx | hx <;> simp only [hx] <;> (repeat' split) <;> first | rfl | simp_all
theorem opR_loadS {t p : Nat} (ho : o.op = .load t (.tmp p)) (hs : sv (st.t p) = true) (h : opR Γ id o st = some (v, m1)) : m1 = st.m ∧ ∀ m', opR Γ id o { st with m := m' } = some (v, m') := by
  have hx : ∀ m', operand Γ { st with m := m' } (.tmp p) = st.t p := fun m' => rfl
  have hx0 : operand Γ st (.tmp p) = st.t p := rfl
  unfold opR exOp at h ⊢
  simp only [ho] at h ⊢
  simp only [hx, hx0] at h ⊢
  cases hT : Γ.T t with
  | none => rw [hT] at h; cases h
  | some row =>
    rw [hT] at h
    try simp only at h ⊢
    unfold sv at hs
    split at hs <;> rename_i e <;> (try simp only [e] at h ⊢) <;> try (cases h; done)
    · rename_i t' x'
      cases hc : castTy Den t' row.ty x' with
      | none => rw [hc] at h; cases h
      | some y =>
        rw [hc] at h
        simp only at h ⊢
        rw [seen_eq] at h
        simp only [Option.some.injEq, Prod.mk.injEq] at h
        obtain ⟨e1, e2⟩ := h
        subst e1
        subst e2
        refine ⟨rfl, fun m' => ?_⟩
        rw [seen_eq]
    · cases hs
theorem opR_indexS {t p : Nat} {i : Operand} (ho : o.op = .indexAddr t (.tmp p) i) (hs : sv (st.t p) = true) (h : opR Γ id o st = some (v, m1)) : (m1 = st.m ∧ ∀ m', opR Γ id o { st with m := m' } = some (v, m')) ∧ sv v = true := by
  have hx : ∀ m', operand Γ { st with m := m' } (.tmp p) = st.t p := fun m' => rfl
  have hx0 : operand Γ st (.tmp p) = st.t p := rfl
  have hi : ∀ m', operand Γ { st with m := m' } i = operand Γ st i := fun m' => by cases i <;> rfl
  unfold opR exOp at h ⊢
  simp only [ho] at h ⊢
  simp only [hx, hx0, hi] at h ⊢
  cases hT : Γ.T t with
  | none => rw [hT] at h; cases h
  | some row =>
    rw [hT] at h
    try simp only at h ⊢
    split at h <;> try (cases h; done)
    rename_i row' c n e0 e1
    cases e0
    cases hk : row.kind <;> rw [hk] at h <;> (try simp only at h ⊢) <;> try (cases h; done)
    · rename_i e
      cases hE : Γ.T e with
      | none => rw [hE] at h; cases h
      | some er =>
        rw [hE] at h
        try simp only at h ⊢
        unfold sv at hs
        split at hs <;> rename_i e2 <;> (try simp only [e2] at h ⊢) <;> try (cases h; done)
        · rename_i e' xs
          cases hc : castTy (fun t => List (Den t)) e' er.ty xs with
          | none => rw [hc] at h; cases h
          | some ys =>
            rw [hc] at h
            simp only at h ⊢
            by_cases h1 : 0 ≤ n
            · rw [decide_eq_true h1] at h ⊢
              simp only [cond_true] at h ⊢
              by_cases h2 : n < ys.length
              · rw [decide_eq_true h2] at h ⊢
                simp only [cond_true, Option.some.injEq, Prod.mk.injEq] at h ⊢
                obtain ⟨e1, e2⟩ := h
                subst e1
                subst e2
                exact ⟨⟨rfl, by simp⟩, rfl⟩
              · rw [decide_eq_false h2] at h; cases h
            · rw [decide_eq_false h1] at h; cases h
        · cases hs
    · rename_i len e
      cases hE : Γ.T e with
      | none => rw [hE] at h; cases h
      | some er =>
        rw [hE] at h
        try simp only at h
        unfold sv at hs
        split at hs <;> rename_i e2 <;> (try simp only [e2] at h) <;> try (cases h; done)
        · cases hs
theorem actR_free {st0 s : St} {m1 : Nat → Blk} (hI : Inv st0 ops s) (hf : memfree st0 ops o.op = true) {m0 : Nat → Blk} (h : actR Γ ops id o { s with m := m0 } = some (v, m1)) : m1 = m0 ∧ ∀ m', actR Γ ops id o { s with m := m' } = some (v, m') := by
  unfold actR at h ⊢
  have hg : ∀ m', gst ops o { s with m := m' } = gst ops o s := fun _ => rfl
  simp only [hg] at h ⊢
  cases g : gst ops o s with
  | none => rw [g] at h; cases h
  | some t =>
    rw [g] at h
    cases t with
    | false => simp only at h ⊢; cases h; exact ⟨rfl, fun _ => rfl⟩
    | true =>
      simp only at h ⊢
      unfold memfree at hf
      split at hf
      · rename_i t p eop
        exact opR_loadS (st := { s with m := m0 }) eop (hI.safe 3 p hf) h
      · rename_i t p i eop
        exact (opR_indexS (st := { s with m := m0 }) eop (hI.safe 3 p hf) h).1
      · cases hf
theorem actR_place {p : Operand} {b : Nat} (ho : placeOf o.op = some p) (hx : okP (operand Γ st p) b) (h : actR Γ ops id o st = some (v, m1)) : ∃ w, m1 = app b w st.m ∧ ∀ m', m' b = st.m b → actR Γ ops id o { st with m := m' } = some (v, app b w m') := by
  unfold actR at h ⊢
  have hg : ∀ m', gst ops o { st with m := m' } = gst ops o st := fun _ => rfl
  simp only [hg]
  cases g : gst ops o st with
  | none => rw [g] at h; cases h
  | some t =>
    rw [g] at h
    cases t with
    | false => simp only at h ⊢; cases h; exact ⟨none, rfl, fun _ _ => rfl⟩
    | true =>
      simp only at h ⊢
      rcases hx with hx | hx | ⟨c, hx⟩
      · rw [opR_placeless ho (.inl hx)] at h; cases h
      · rw [opR_placeless ho (.inr hx)] at h; cases h
      · exact opR_place ho hx h
theorem blkOf_ok {st0 s : St} {p : Operand} {b : Nat} (hI : Inv st0 ops s) (h : blkOf st0 ops p = some b) : okP (operand Γ s p) b := by
  unfold blkOf at h
  split at h
  · rename_i p
    split at h
    · rename_i b' _
      cases hr : rooted st0 ops p b' with
      | false => rw [hr] at h; cases h
      | true => rw [hr] at h; cases h; exact hI.root p _ hr
    · cases h
  · cases h
theorem Inv.act {st0 s s' : St} {nx i : Nat} (hI : Inv st0 ops s) (h : actI Γ ops nx i s = some s') : Inv st0 ops s' := by
  unfold actI at h
  cases ho : ops[i]? with
  | none => rw [ho] at h; cases h
  | some o =>
    rw [ho] at h
    simp only at h
    rw [exGuard_eq] at h
    have hmem : o ∈ ops.toList := by simpa using Array.mem_of_getElem? ho
    cases ha : actR Γ ops (nx + 4 * i) o s with
    | none => rw [ha] at h; cases h
    | some q =>
      obtain ⟨v, m1⟩ := q
      rw [ha] at h
      simp only [Option.bind_some, put_eq] at h
      obtain ⟨_, h⟩ := bif_none h
      cases h
      cases hd : o.dst with
      | none => exact ⟨hI.same, hI.root, hI.safe⟩
      | some d =>
        refine ⟨fun q hq => ?_, fun p b hr => ?_, fun f p hr => ?_⟩
        rotate_left 2
        · by_cases e : p = d
          · subst e
            show sv (upd s.t p v p) = true
            rw [upd_same]
            have hw : writes o p = true := by simp [writes, hd]
            cases f with
            | zero =>
              unfold safeT unwritten at hr
              simp only [Bool.and_eq_true] at hr
              have := List.all_eq_true.1 hr.2 o hmem
              rw [hw] at this
              cases this
            | succ f =>
              unfold safeT at hr
              simp only [Bool.and_eq_true] at hr
              have h2 := List.all_eq_true.1 hr.2 o hmem
              rw [hw] at h2
              simp only [Bool.not_true, Bool.false_or] at h2
              unfold actR at ha
              split at ha
              · split at h2
                · rename_i q eop
                  have := hI.safe f q h2
                  unfold opR exOp at ha
                  simp only [eop] at ha
                  rw [seen_eq] at ha
                  simp only [Option.some.injEq, Prod.mk.injEq] at ha
                  rw [← ha.1]; exact this
                · rename_i t q i eop
                  exact (opR_indexS eop (hI.safe f q h2) ha).2
                · cases h2
              · cases ha; rfl
              · cases ha
          · show sv (upd s.t d v p) = true
            rw [upd_other _ _ e]
            exact hI.safe f p hr
        · have hne : q ≠ d := by
            intro e
            unfold unwritten at hq
            have := List.all_eq_true.1 hq o hmem
            simp [writes, hd, e] at this
          show upd s.t d v q = _
          rw [upd_other _ _ hne]
          exact hI.same q hq
        · by_cases e : p = d
          · subst e
            show okP (upd s.t p v p) b
            rw [upd_same]
            unfold rooted at hr
            simp only [Bool.and_eq_true] at hr
            have h2 := List.all_eq_true.1 hr.2 o hmem
            have hw : writes o p = true := by simp [writes, hd]
            rw [hw] at h2
            simp only [Bool.not_true, Bool.false_or] at h2
            split at h2
            · rename_i t q f eop
              simp only [Bool.and_eq_true] at h2
              obtain ⟨c, hc⟩ := atBlk_is h2.2
              have hq : operand Γ s (.tmp q) = .one (.vptr b c) := by
                show s.t q = _
                rw [hI.same q h2.1, hc]
              unfold actR at ha
              split at ha
              · exact .inr (.inr (opR_fieldAddr eop hq ha).1)
              · cases ha; exact .inr (.inl rfl)
              · cases ha
            · cases h2
          · show okP (upd s.t d v p) b
            rw [upd_other _ _ e]
            exact hI.root p b hr
theorem actR_far {st0 : St} {i j nx : Nat} {x y : Oper} (hI : Inv st0 ops st) (hf : farOK st0 ops x.op y.op = true) {vx vy : PV} {mx my : Nat → Blk}
    (hx : actR Γ ops (nx + 4 * j) x st = some (vx, mx)) (hy : actR Γ ops (nx + 4 * i) y { st with m := mx } = some (vy, my)) :
    ∃ m2, actR Γ ops (nx + 4 * i) y st = some (vy, m2) ∧ actR Γ ops (nx + 4 * j) x { st with m := m2 } = some (vx, my) := by
  unfold farOK at hf
  split at hf <;> try (cases hf; done)
  rename_i p q hp hq
  unfold far at hf
  split at hf <;> try (cases hf; done)
  rename_i b b' hb hb'
  have hne : b ≠ b' := by
    intro e; subst e
    rw [Nat.beq_refl] at hf; cases hf
  have hne' : b' ≠ b := fun e => hne e.symm
  obtain ⟨w, e1, e2⟩ := actR_place hp (blkOf_ok (Γ := Γ) hI hb) hx
  have hoq : operand Γ { st with m := mx } q = operand Γ st q := by cases q <;> rfl
  obtain ⟨w', e3, e4⟩ := actR_place (st := { st with m := mx }) hq (by rw [hoq]; exact blkOf_ok (Γ := Γ) hI hb') hy
  have o1 : ∀ (m : Nat → Blk) (u : Option Blk), app b u m b' = m b' := fun m u => by
    cases u with
    | none => rfl
    | some blk => exact upd_other _ _ hne'
  have o2 : ∀ (m : Nat → Blk) (u : Option Blk), app b' u m b = m b := fun m u => by
    cases u with
    | none => rfl
    | some blk => exact upd_other _ _ hne
  refine ⟨app b' w' st.m, ?_, ?_⟩
  · have := e4 st.m (by show st.m b' = mx b'; rw [e1, o1])
    exact this
  · rw [e2 _ (o2 _ _), e3]
    show some (vx, app b w (app b' w' st.m)) = some (vx, app b' w' mx)
    rw [e1]
    cases w with
    | none => rfl
    | some blk => cases w' with
      | none => rfl
      | some blk' => simp only [app]; rw [upd_comm _ _ _ hne']
def vAgree (m m1 : Nat → Blk) : Prop := ∀ q l cs, (m q = .var l cs → m1 q = m q) ∧ (m1 q = .var l cs → m1 q = m q)
theorem vAgree.upd {m : Nat → Blk} {id : Nat} {blk : Blk} (hf : m id = .free) (hb : ∀ l cs, blk ≠ .var l cs) : vAgree m (upd m id blk) := fun q l cs => by
  by_cases e : q = id
  · subst e
    rw [upd_same, hf]
    exact ⟨fun h => (by cases h), fun h => absurd h (hb l cs)⟩
  · rw [upd_other _ _ e]; exact ⟨fun _ => rfl, fun _ => rfl⟩
theorem listOf_yes {st : St} {e : Ty} {x : LV} {R : Type} {k : List (Den e) → Option R} {y : R} (h : listOf Γ st e x k = some y) : ∃ ys, k ys = some y := by
  rw [listOf_nat] at h
  obtain ⟨ys, _, h⟩ := Option.bind_eq_some_iff.1 h
  exact ⟨ys, h⟩
theorem opR_append (ha : isApp o.op = true) (h : opR Γ id o st = some (v, m1)) : vAgree st.m m1 := by
  unfold isApp at ha
  split at ha <;> try (cases ha; done)
  rename_i c ho
  split at ha <;> try (cases ha; done)
  rename_i hc
  unfold opR exOp at h
  simp only [ho, hc, exBuiltin] at h
  split at h <;> try (first | contradiction | (cases h; done))
  obtain ⟨_, h⟩ := bif_none h
  split at h <;> try (cases h; done)
  split at h <;> try (cases h; done)
  split at h <;> try (cases h; done)
  obtain ⟨xv, _, h⟩ := one1_some h
  obtain ⟨ys, h⟩ := listOf_yes h
  split at h <;> try (cases h; done)
  · rename_i hf
    obtain ⟨_, h⟩ := bif_none h
    obtain ⟨_, h⟩ := cond_none h
    cases h
    exact vAgree.upd hf fun l cs => by intro e; cases e
  · rename_i b _ hf
    split at h <;> try (cases h; done)
    rename_i hm
    obtain ⟨_, h⟩ := bif_none h
    split at h <;> try (cases h; done)
    obtain ⟨_, h⟩ := cond_none h
    cases h
    intro q l cs
    by_cases e : q = id
    · subst e
      rw [upd_same, hf]
      exact ⟨fun h => (by cases h), fun h => (by cases h)⟩
    · rw [upd_other _ _ e]
      by_cases e' : q = b
      · subst e'
        rw [upd_same, hm]
        exact ⟨fun h => (by cases h), fun h => (by cases h)⟩
      · rw [upd_other _ _ e']; exact ⟨fun _ => rfl, fun _ => rfl⟩
  · rename_i b _ _ _ hf
    split at h <;> try (cases h; done)
    rename_i hm
    obtain ⟨_, h⟩ := bif_none h
    split at h <;> try (cases h; done)
    obtain ⟨_, h⟩ := cond_none h
    cases h
    intro q l cs
    by_cases e : q = id
    · subst e
      rw [upd_same, hf]
      exact ⟨fun h => (by cases h), fun h => (by cases h)⟩
    · rw [upd_other _ _ e]
      by_cases e' : q = b
      · subst e'
        rw [upd_same, hm]
        exact ⟨fun h => (by cases h), fun h => (by cases h)⟩
      · rw [upd_other _ _ e']; exact ⟨fun _ => rfl, fun _ => rfl⟩
theorem actR_append (ha : isApp o.op = true) (h : actR Γ ops id o st = some (v, m1)) : vAgree st.m m1 := by
  unfold actR at h
  split at h
  · exact opR_append ha h
  · cases h; exact fun _ _ _ => ⟨fun _ => rfl, fun _ => rfl⟩
  · cases h
/-- A read of a variable: what it needs is the variable's block alone. -/
theorem actR_read {st0 : St} (hI : Inv st0 ops st) (hr : readAt st0 ops o.op = true) {m0 : Nat → Blk} (h : actR Γ ops id o { st with m := m0 } = some (v, m1)) : m1 = m0 ∧ ∀ m', vAgree m0 m' ∨ vAgree m' m0 → actR Γ ops id o { st with m := m' } = some (v, m') := by
  have hop : ∀ m' x, operand Γ { st with m := m' } x = operand Γ st x := fun m' x => by cases x <;> rfl
  unfold actR at h ⊢
  have hg : ∀ m', gst ops o { st with m := m' } = gst ops o st := fun _ => rfl
  simp only [hg] at h ⊢
  cases g : gst ops o st with
  | none => rw [g] at h; cases h
  | some t =>
    rw [g] at h
    cases t with
    | false => simp only at h ⊢; cases h; exact ⟨rfl, fun _ _ => rfl⟩
    | true =>
      simp only at h ⊢
      unfold readAt at hr
      split at hr
      · rename_i t p eop
        obtain ⟨b, hb⟩ := Option.isSome_iff_exists.1 hr
        have hx := blkOf_ok (Γ := Γ) hI hb
        rw [← hop m0] at hx
        rcases hx with hx | hx | ⟨c, hx⟩
        · rw [opR_placeless (p := p) (by rw [eop]; rfl) (.inl hx)] at h; cases h
        · rw [opR_placeless (p := p) (by rw [eop]; rfl) (.inr hx)] at h; cases h
        · obtain ⟨e1, e2⟩ := opR_load (st := { st with m := m0 }) eop hx h
          refine ⟨e1, fun m' hm => e2 m' ?_⟩
          have hv := opR_loadV (st := { st with m := m0 }) eop hx h
          obtain ⟨l, cs, hv⟩ := hv
          rcases hm with hm | hm
          · exact (hm b l cs).1 hv
          · exact ((hm b l cs).2 hv).symm
      · rename_i t p f eop
        obtain ⟨b, hb⟩ := Option.isSome_iff_exists.1 hr
        have hx := blkOf_ok (Γ := Γ) hI hb
        rw [← hop m0] at hx
        rcases hx with hx | hx | ⟨c, hx⟩
        · rw [opR_placeless (p := p) (by rw [eop]; rfl) (.inl hx)] at h; cases h
        · rw [opR_placeless (p := p) (by rw [eop]; rfl) (.inr hx)] at h; cases h
        · obtain ⟨_, e1, e2⟩ := opR_fieldAddr (st := { st with m := m0 }) eop hx h
          refine ⟨e1, fun m' hm => e2 m' ?_⟩
          have hv := opR_fieldV (st := { st with m := m0 }) eop hx h
          obtain ⟨l, cs, hv⟩ := hv
          rcases hm with hm | hm
          · exact (hm b l cs).1 hv
          · exact ((hm b l cs).2 hv).symm
      · cases hr
theorem actI_swap {st0 : St} {i j nx : Nat} (hij : i ≠ j) {x y : Oper} (hx : ops[j]? = some x) (hy : ops[i]? = some y) (hp : pairOK Γ st0 ops x y = true) (hI : Inv st0 ops st) {s1 s2 : St}
    (h1 : actI Γ ops nx j st = some s1) (h2 : actI Γ ops nx i s1 = some s2) : ∃ s', actI Γ ops nx i st = some s' ∧ actI Γ ops nx j s' = some s2 := by
  unfold actI at *
  simp only [hx, hy] at h1 h2 ⊢
  rw [exGuard_eq] at h1 h2
  unfold pairOK at hp
  simp only [Bool.and_eq_true] at hp
  obtain ⟨hap, hp⟩ := hp
  obtain ⟨a1, a2, a3⟩ := Oper.apart_spec hap
  cases hax : actR Γ ops (nx + 4 * j) x st with
  | none => rw [hax] at h1; cases h1
  | some qx =>
    obtain ⟨vx, mx⟩ := qx
    rw [hax] at h1
    simp only [Option.bind_some, put_eq] at h1
    obtain ⟨ok1, h1⟩ := bif_none h1
    cases h1
    have hframe : actR Γ ops (nx + 4 * i) y (putS { st with m := mx } x.dst vx) = actR Γ ops (nx + 4 * i) y { st with m := mx } := by
      cases hd : x.dst with
      | none => rfl
      | some d => exact actR_frame (a1 d hd) vx
    rw [hframe] at h2
    cases hay : actR Γ ops (nx + 4 * i) y { st with m := mx } with
    | none => rw [hay] at h2; cases h2
    | some qy =>
      obtain ⟨vy, my⟩ := qy
      rw [hay] at h2
      simp only [Option.bind_some, put_eq] at h2
      obtain ⟨ok2, h2⟩ := bif_none h2
      cases h2
      obtain ⟨m2, k1, k2⟩ : ∃ m2, actR Γ ops (nx + 4 * i) y st = some (vy, m2) ∧ actR Γ ops (nx + 4 * j) x { st with m := m2 } = some (vx, my) := by
        rcases Bool.or_eq_true_iff.1 hp with hp | hp
        · exact actR_swap hij hp hax hay
        · rcases Bool.or_eq_true_iff.1 hp with hp | hp
          · exact actR_far hI hp hax hay
          rcases Bool.or_eq_true_iff.1 hp with hp | hp
          · rcases Bool.or_eq_true_iff.1 hp with hp | hp
            · obtain ⟨f1, f2⟩ := actR_free (m0 := st.m) hI hp hax
              subst f1
              exact ⟨my, hay, f2 my⟩
            · obtain ⟨f1, f2⟩ := actR_free (m0 := mx) hI hp hay
              subst f1
              exact ⟨st.m, f2 st.m, hax⟩
          · rcases Bool.or_eq_true_iff.1 hp with hp | hp
            · simp only [Bool.and_eq_true] at hp
              have hv := actR_append hp.1 hax
              obtain ⟨f1, f2⟩ := actR_read (m0 := mx) hI hp.2 hay
              subst f1
              exact ⟨st.m, f2 st.m (.inr hv), hax⟩
            · simp only [Bool.and_eq_true] at hp
              obtain ⟨f1, f2⟩ := actR_read (m0 := st.m) hI hp.1 hax
              subst f1
              have hv := actR_append hp.2 hay
              exact ⟨my, hay, f2 my (.inl hv)⟩
      have ok2' : putOK { st with m := m2 } y.dst = true := by
        cases hd : y.dst with
        | none => rfl
        | some e =>
          rw [hd] at ok2
          cases hd' : x.dst <;> rw [hd'] at ok2 <;> exact ok2
      refine ⟨putS { st with m := m2 } y.dst vy, ?_, ?_⟩
      · rw [exGuard_eq, k1]
        simp only [Option.bind_some, put_eq, ok2', cond_true]
      · have hframe' : actR Γ ops (nx + 4 * j) x (putS { st with m := m2 } y.dst vy) = actR Γ ops (nx + 4 * j) x { st with m := m2 } := by
          cases hd : y.dst with
          | none => rfl
          | some d => exact actR_frame (a3 d hd) vy
        rw [exGuard_eq, hframe', k2]
        have ok1' : putOK ({ putS { st with m := m2 } y.dst vy with m := my } : St) x.dst = true := by
          cases hd : x.dst with
          | none => rfl
          | some e =>
            rw [hd] at ok1
            cases hd' : y.dst <;> exact ok1
        simp only [Option.bind_some, put_eq, ok1', cond_true, Option.some.injEq]
        cases hdx : x.dst with
        | none => cases hdy : y.dst <;> rfl
        | some d =>
          cases hdy : y.dst with
          | none => rfl
          | some e =>
            have hne : e ≠ d := fun e' => a2 d hdx (by rw [hdy, e'])
            simp only [putS]
            rw [upd_comm _ _ _ hne]

theorem front {st0 : St} {nx i : Nat} : ∀ (pre post : List Nat) (st s : St), Inv st0 ops st → i ∉ pre → (∀ j ∈ pre, ∃ x y, ops[j]? = some x ∧ ops[i]? = some y ∧ pairOK Γ st0 ops x y = true) → runL Γ ops nx (pre ++ i :: post) st = some s → runL Γ ops nx (i :: (pre ++ post)) st = some s := by
  intro pre
  induction pre with
  | nil => intro post st s _ _ _ h; exact h
  | cons j pre ih =>
    intro post st s hI hi hp h
    simp only [List.cons_append, runL] at h
    cases hj : actI Γ ops nx j st with
    | none => rw [hj] at h; cases h
    | some s1 =>
      rw [hj] at h
      simp only [Option.bind_some] at h
      have := ih post s1 s (hI.act hj) (fun e => hi (List.mem_cons_of_mem _ e)) (fun k hk => hp k (List.mem_cons_of_mem _ hk)) h
      simp only [runL] at this
      cases hi1 : actI Γ ops nx i s1 with
      | none => rw [hi1] at this; cases this
      | some s2 =>
        rw [hi1] at this
        simp only [Option.bind_some] at this
        obtain ⟨x, y, hx, hy, hxy⟩ := hp j (List.mem_cons_self ..)
        obtain ⟨s', k1, k2⟩ := actI_swap (fun e => hi (by rw [e]; exact List.mem_cons_self ..)) hx hy hxy hI hj hi1
        simp only [runL, List.cons_append, k1, Option.bind_some, k2]
        exact this

theorem orderOK_split {st0 : St} : ∀ (pre : List Nat) (i : Nat) (post : List Nat), orderOK Γ st0 ops (pre ++ i :: post) = true →
    i ∉ pre ∧ (∀ j ∈ pre, depX ops i j = false → ∃ x y, ops[j]? = some x ∧ ops[i]? = some y ∧ pairOK Γ st0 ops x y = true) ∧ orderOK Γ st0 ops (pre ++ post) = true ∧ (∀ k ∈ post, depends ops i k = false) ∧ i ∉ post ∧ selfOK ops i = true := by
  intro pre
  induction pre with
  | nil =>
    intro i post h
    simp only [List.nil_append, orderOK, Bool.and_eq_true, List.all_eq_true] at h
    obtain ⟨⟨h0, h1⟩, h2⟩ := h
    refine ⟨by simp, by simp, h2, fun k hk => ?_, fun hi => ?_, h0⟩
    · have := (h1 k hk).1; simpa using this
    · have := (h1 i hi).2.1; simp at this
  | cons j pre ih =>
    intro i post h
    simp only [List.cons_append, orderOK, Bool.and_eq_true, List.all_eq_true] at h
    obtain ⟨⟨h0, h1⟩, h2⟩ := h
    obtain ⟨k1, k2, k3, k4, k5, k6⟩ := ih i post h2
    have hi := h1 i (by simp)
    refine ⟨?_, ?_, ?_, k4, k5, k6⟩
    · intro hm
      rcases List.mem_cons.1 hm with e | hm
      · subst e; have := hi.2.1; simp at this
      · exact k1 hm
    · intro j' hj' hd
      rcases List.mem_cons.1 hj' with e | hj'
      · subst e
        have := hi.2.2
        rw [hd] at this
        simp only [Bool.false_eq_true, false_or, Bool.or_eq_true] at this
        split at this
        · rename_i x y hx hy; exact ⟨x, y, hx, hy, this⟩
        · cases this
      · exact k2 j' hj' hd
    · simp only [List.cons_append, orderOK, Bool.and_eq_true, List.all_eq_true]
      refine ⟨⟨h0, fun q hq => h1 q ?_⟩, k3⟩
      simp only [List.mem_append, List.mem_cons] at hq ⊢
      rcases hq with hq | hq
      · exact .inl hq
      · exact .inr (.inr hq)

variable {P : Program} {C : Ctx} {ρ : Nat → Value} {S : Nat → Prop} {a : Act} {w : World}

theorem getD_size {listed : Array Bool} {i : Nat} (h : i < listed.size) (d e : Bool) : listed.getD i d = listed.getD i e := by
  simp [Array.getD, h]

/-- What is listed has all listed that it comes behind. -/
def Closed (ops : Array Oper) (listed : Array Bool) : Prop := ∀ k o, ops[k]? = some o → listed.getD k true = true → ∀ e ∈ o.after.toList, Region.binds .any e = true → listed.getD e.on false = true
theorem depT_closed {listed : Array Bool} (hc : Closed ops listed) {j : Nat} (hj : listed.getD j false = false) : ∀ (f i : Nat) (o : Oper), ops[i]? = some o → (∀ e ∈ o.after.toList, Region.binds .any e = true → listed.getD e.on false = true) → depT ops f i j = false := by
  have dep : ∀ (i : Nat) (o : Oper), ops[i]? = some o → (∀ e ∈ o.after.toList, Region.binds .any e = true → listed.getD e.on false = true) → depends ops i j = false := by
    intro i o hi hd
    cases hq : depends ops i j with
    | false => rfl
    | true =>
      exfalso
      unfold depends at hq
      rw [hi] at hq
      simp only [List.any_eq_true, Bool.and_eq_true] at hq
      obtain ⟨e, he, hb, hon⟩ := hq
      have hon := Nat.eq_of_beq_eq_true hon
      have h1 := hd e he hb
      rw [hon, hj] at h1
      cases h1
  intro f
  induction f with
  | zero => intro i o hi hd; exact dep i o hi hd
  | succ f ih =>
    intro i o hi hd
    simp only [depT]
    rw [dep i o hi hd, hi]
    simp only [Bool.false_or]
    cases hq : o.after.toList.any _ with
    | false => rfl
    | true =>
      exfalso
      simp only [List.any_eq_true, Bool.and_eq_true] at hq
      obtain ⟨e, he, hb, _, ht⟩ := hq
      have h1 := hd e he hb
      have hlt : e.on < listed.size := by
        rcases Nat.lt_or_ge e.on listed.size with h | h
        · exact h
        · simp [Array.getD, Nat.not_lt.2 h] at h1
      cases ho : ops[e.on]? with
      | none =>
        cases f with
        | zero => simp [depT, depends, ho] at ht
        | succ f => simp [depT, depends, ho] at ht
      | some o' =>
        have := ih e.on o' ho (hc e.on o' ho (by rw [getD_size hlt true false]; exact h1))
        rw [this] at ht
        cases ht

theorem depC_closed {listed : Array Bool} (hc : Closed ops listed) {j : Nat} (hj : listed.getD j false = false) : ∀ (f i : Nat) (o : Oper), ops[i]? = some o → (∀ e ∈ o.after.toList, Region.binds .any e = true → listed.getD e.on false = true) → depC ops f i j = false := by
  intro f
  induction f with
  | zero => intro i o hi hd; rfl
  | succ f ih =>
    intro i o hi hd
    simp only [depC]
    rw [hi]
    simp only
    cases hq : o.after.toList.any _ with
    | false => rfl
    | true =>
      exfalso
      simp only [List.any_eq_true, Bool.and_eq_true, Bool.or_eq_true] at hq
      obtain ⟨e, he, hb, _, ht⟩ := hq
      have h1 := hd e he hb
      rcases ht with ht | ht
      · rw [Nat.eq_of_beq_eq_true ht, hj] at h1; cases h1
      have hlt : e.on < listed.size := by
        rcases Nat.lt_or_ge e.on listed.size with h | h
        · exact h
        · simp [Array.getD, Nat.not_lt.2 h] at h1
      cases ho : ops[e.on]? with
      | none =>
        cases f with
        | zero => simp [depC] at ht
        | succ f => simp [depC, ho] at ht
      | some o' =>
        have := ih e.on o' ho (hc e.on o' ho (by rw [getD_size hlt true false]; exact h1))
        rw [this] at ht
        cases ht
theorem depX_closed {listed : Array Bool} (hc : Closed ops listed) {j : Nat} (hj : listed.getD j false = false) (i : Nat) (o : Oper) (hi : ops[i]? = some o) (hd : ∀ e ∈ o.after.toList, Region.binds .any e = true → listed.getD e.on false = true) : depX ops i j = false := by
  unfold depX
  rw [depT_closed hc hj 8 i o hi hd, hi, Bool.or_false]
  simp only
  cases hq : o.after.toList.any _ with
  | false => rfl
  | true =>
    exfalso
    simp only [List.any_eq_true, Bool.and_eq_true, Bool.or_eq_true] at hq
    obtain ⟨e, he, hb, ht⟩ := hq
    have h1 := hd e he hb
    rcases ht with ht | ht
    · rw [Nat.eq_of_beq_eq_true ht, hj] at h1; cases h1
    have hlt : e.on < listed.size := by
      rcases Nat.lt_or_ge e.on listed.size with h | h
      · exact h
      · simp [Array.getD, Nat.not_lt.2 h] at h1
    cases ho : ops[e.on]? with
    | none => simp [depC, ho] at ht
    | some o' =>
      have := depC_closed hc hj 64 e.on o' ho (hc e.on o' ho (by rw [getD_size hlt true false]; exact h1))
      rw [this] at ht
      cases ht

theorem Closed.set {listed : Array Bool} (hc : Closed ops listed) {i : Nat} {o : Oper} (hi : ops[i]? = some o) (hd : ∀ e ∈ o.after.toList, Region.binds .any e = true → listed.getD e.on false = true) : Closed ops (listed.setIfInBounds i true) := by
  have mono : ∀ q, listed.getD q false = true → (listed.setIfInBounds i true).getD q false = true := by
    intro q hq
    by_cases e : q = i
    · subst e
      have hlt : q < listed.size := by
        rcases Nat.lt_or_ge q listed.size with h | h
        · exact h
        · simp [Array.getD, Nat.not_lt.2 h] at hq
      simp [Array.getD, hlt]
    · rw [getD_set_ne false (Ne.symm e)]; exact hq
  intro k ok hk hlk e he hb
  by_cases e' : k = i
  · subst e'
    rw [hi] at hk; cases hk
    exact mono _ (hd e he hb)
  · rw [getD_set_ne true (Ne.symm e')] at hlk
    exact mono _ (hc k ok hk hlk e he hb)

theorem wpAny_of (hΓ : EnvOK P C.G Γ) {st0 : St} {Q : Exit → Act → World → Prop} {nx : Nat} {s : St} (hQ : ∀ ρ' S' a' w', Rel P C ρ' S' s a' w' → Q .normal a' w') :
    ∀ (n : Nat) (l : List Nat) (listed : Array Bool) {ρ S st a w}, l.length = n → orderOK Γ st0 ops l = true → (∀ i, i ∈ l ↔ listed.getD i true = false ∧ i < ops.size) → listed.size = ops.size → Closed ops listed → Inv st0 ops st →
      runL Γ ops nx l st = some s → Rel P C ρ S st a w → wpAny P .any ops Q n listed a w := by
  intro n
  induction n with
  | zero =>
    intro l listed ρ S st a w hn ho hl hsz hcl hI hr r
    have : l = [] := List.eq_nil_of_length_eq_zero hn
    subst this
    simp only [runL] at hr
    cases hr
    refine ⟨?_, hQ _ _ _ _ r⟩
    cases hready : Region.ready .any ops listed with
    | nil => rfl
    | cons i rest =>
      have : i ∈ Region.ready .any ops listed := by rw [hready]; exact List.mem_cons_self ..
      obtain ⟨h1, o, ho, _⟩ := mem_ready.1 this
      have := (hl i).2 ⟨h1, (Array.getElem?_eq_some_iff.1 ho).1⟩
      cases this
  | succ n ih =>
    intro l listed ρ S st a w hn ho hl hsz hcl hI hr r
    refine ⟨fun hnil => ?_, fun i hi => ?_⟩
    · -- the head is ready
      exfalso
      match l, hn with
      | i :: l, hn =>
        have hi := (hl i).1 (List.mem_cons_self ..)
        have hmem : i ∈ Region.ready .any ops listed := by
          rw [mem_ready]
          refine ⟨hi.1, ops[i]'hi.2, Array.getElem?_eq_getElem hi.2, fun e he hb => ?_⟩
          obtain ⟨_, _, _, k4, _, k6⟩ := orderOK_split (Γ := Γ) (st0 := st0) [] i l ho
          unfold selfOK at k6
          rw [Array.getElem?_eq_getElem hi.2] at k6
          simp only [List.all_eq_true] at k6
          have k6 := k6 e (by simpa using he)
          rw [hb] at k6
          simp only [Bool.not_true, Bool.false_or, Bool.and_eq_true, Bool.not_eq_true'] at k6
          have hlt : e.on < ops.size := by simpa using k6.1
          have hne : e.on ≠ i := Nat.ne_of_beq_eq_false k6.2
          cases hle : listed.getD e.on false with
          | true => rfl
          | false =>
            exfalso
            have hmem : e.on ∈ i :: l := (hl e.on).2 ⟨by rw [getD_size (by omega) true false]; exact hle, hlt⟩
            rcases List.mem_cons.1 hmem with e' | hmem
            · exact hne e'
            · have hdep : depends ops i e.on = true := by
                unfold depends
                rw [Array.getElem?_eq_getElem hi.2]
                simp only [List.any_eq_true, Bool.and_eq_true]
                exact ⟨e, by simpa using he, hb, Nat.beq_refl _⟩
              rw [k4 _ hmem] at hdep; cases hdep
        rw [hnil] at hmem
        cases hmem
    · obtain ⟨hi1, o, hio, hdeps⟩ := mem_ready.1 hi
      have hlt := (Array.getElem?_eq_some_iff.1 hio).1
      have hil : i ∈ l := (hl i).2 ⟨hi1, hlt⟩
      obtain ⟨pre, post, rfl⟩ := List.append_of_mem hil
      obtain ⟨k1, k2, k3, k4, k5, k6⟩ := orderOK_split pre i post ho
      have hpre : ∀ j ∈ pre, ∃ x y, ops[j]? = some x ∧ ops[i]? = some y ∧ pairOK Γ st0 ops x y = true := by
        intro j hj
        refine k2 j hj ?_
        have h2 := (hl j).1 (by simp [hj])
        exact depX_closed hcl (by rw [← getD_size (by omega) true false]; exact h2.1) i o hio (fun e he hb => hdeps e (by simpa using he) hb)
      have hr' := front pre post st s hI k1 hpre hr
      simp only [runL] at hr'
      cases hs1 : actI Γ ops nx i st with
      | none => rw [hs1] at hr'; cases hr'
      | some s1 =>
      rw [hs1] at hr'
      simp only [Option.bind_some] at hr'
      have hI1 := hI.act hs1
      have hk : exGuard Γ ops (nx + 4 * i) o st (fun q => open Classical in if q = s1 then some () else none) = some () := by
        rw [exGuard_nat]
        simp only [actI, hio] at hs1
        rw [hs1, Option.bind_some, if_pos rfl]
      refine exGuard_sound hΓ r hio hk fun ρ' S' st' a' w' r' h' => ?_
      have hst : st' = s1 := by
        by_cases e : st' = s1
        · exact e
        · rw [if_neg e] at h'; cases h'
      subst hst
      refine ih (pre ++ post) (listed.setIfInBounds i true) (by simp at hn ⊢; omega) k3 (fun q => ?_) (by simpa using hsz) (hcl.set hio (fun e he hb => hdeps e (by simpa using he) hb)) hI1 hr' r'
      constructor
      · intro hq
        have hqi : q ≠ i := by
          rintro rfl
          rcases List.mem_append.1 hq with h | h
          · exact k1 h
          · exact k5 h
        have := (hl q).1 (by rcases List.mem_append.1 hq with h | h <;> simp [h])
        exact ⟨by rw [getD_set_ne true (Ne.symm hqi)]; exact this.1, this.2⟩
      · rintro ⟨h1, h2⟩
        have hqi : q ≠ i := by
          rintro rfl
          rw [getD_size (by simpa [hsz] using h2) true false] at h1
          simp [Array.getD, hsz, h2] at h1
        rw [getD_set_ne true (Ne.symm hqi)] at h1
        have := (hl q).2 ⟨h1, h2⟩
        simp only [List.mem_append, List.mem_cons] at this ⊢
        rcases this with h | h | h
        · exact .inl h
        · exact absurd h hqi
        · exact .inr h
end Go.PM

/-! PmEx -/
namespace Go.PM
open Go.RowKit
set_option linter.unusedVariables false
set_option linter.unusedSimpArgs false
variable {P : Program} {Γ : Env} {C : Ctx} {ρ : Nat → Value} {S : Nat → Prop} {st : St} {a : Act} {w : World}
variable {R : Type} {y : R}

theorem exOpsL_eq {ops : Array Oper} {nx : Nat} (k : St → Option R) : ∀ (l : List Nat) (st : St), exOpsL Γ ops nx l st k = (runL Γ ops nx l st).bind k
  | [], _ => rfl
  | i :: l, st => by
    simp only [exOpsL, runL, actI]
    cases hi : ops[i]? with
    | none => rfl
    | some o =>
      simp only
      rw [exGuard_nat, Option.bind_assoc]
      congr 1
      funext s
      exact exOpsL_eq k l s
theorem orderOK_lt {st0 : St} {ops : Array Oper} : ∀ (l : List Nat), orderOK Γ st0 ops l = true → ∀ i ∈ l, i < ops.size := by
  intro l
  induction l with
  | nil => intro _ i hi; cases hi
  | cons j l ih =>
    intro h i hi
    simp only [orderOK, Bool.and_eq_true] at h
    rcases List.mem_cons.1 hi with e | hi
    · subst e
      have := h.1.1
      unfold selfOK at this
      cases ho : ops[i]? with
      | none => rw [ho] at this; cases this
      | some o => exact (Array.getElem?_eq_some_iff.1 ho).1
    · exact ih h.2 i hi

theorem Rel.setNx (r : Rel P C ρ S st a w) (nx : Nat) : Rel P C ρ S { st with nx := nx } a w := ⟨r.defers, r.below, r.sb, r.s0, r.s1, r.tm, r.sz, r.mem, r.inj, r.out, r.loc, r.gl, r.mz⟩

theorem ex_sound (hΓ : EnvOK P C.G Γ) {K : Nat} : ∀ (c : Code) {ρ S st a w} {kn : St → Option R} {kx : Nat → St → Option R} {kr : St → Option R} {Q : Exit → Act → World → Prop}, Rel P C ρ S st a w → ex Γ K c st kn kx kr = some y →
    (∀ ρ' S' st' a' w', Rel P C ρ' S' st' a' w' → kn st' = some y → Q .normal a' w') → (∀ i ρ' S' st' a' w', Rel P C ρ' S' st' a' w' → kx i st' = some y → Q (.exit i) a' w') →
    (∀ ρ' S' st' a' w', Rel P C ρ' S' st' a' w' → kr st' = some y → Q .ret a' w') → c.wp P Q a w := by
  intro c
  induction c with
  | skip => intro ρ S st a w kn kx kr Q r h hn hx hr; exact wp_skip (hn _ _ _ _ _ r h)
  | region id ops draw =>
    intro ρ S st a w kn kx kr Q r h hn hx hr
    simp only [ex] at h
    cases draw with
    | false =>
      simp only [cond_false] at h
      refine wp_region ?_
      have := exOps_sound (Q := Q) hΓ (fun ρ' S' st' a' w' r' h' => hn _ _ _ _ _ (r'.setNx _) h') ops.toList 0 rfl r h
      rwa [Array.length_toList, ← List.range_eq_range'] at this
    | true =>
      simp only [cond_true] at h
      obtain ⟨hb, h⟩ := bif_none h
      simp only [Bool.and_eq_true, List.all_eq_true] at hb
      obtain ⟨ho, hlen, hall⟩ := hb
      have hlen := Nat.eq_of_beq_eq_true hlen
      rw [exOpsL_eq] at h
      cases hr2 : runL Γ ops st.nx (Γ.ord id) st with
      | none => rw [hr2] at h; cases h
      | some s =>
        rw [hr2] at h
        simp only [Option.bind_some] at h
        have r2 : Rel P C ρ S st a { w with drawn := w.drawn + 1 } := r.grow (S' := S) (Below.drew (Below.refl _ _)) (fun _ h => h) (fun _ h => .inl h)
        refine wp_region_any hΓ.mixed ?_
        refine wpAny_of hΓ (st0 := st) (s := s) (fun ρ' S' a' w' r' => hn _ _ _ _ _ (r'.setNx _) h) ops.size (Γ.ord id) _ hlen ho (fun i => ?_) (by simp) (fun k ok hk hlk => ?_) (Inv.refl st ops) hr2 r2
        case refine_2 =>
          exfalso
          have hlt := (Array.getElem?_eq_some_iff.1 hk).1
          simp [Array.getD, hlt] at hlk
        constructor
        · intro hi
          have hlt := orderOK_lt _ ho i hi
          exact ⟨by simp [Array.getD, hlt], hlt⟩
        · rintro ⟨_, hlt⟩
          have := hall i (List.mem_range.2 hlt)
          simpa using this
  | seq c d ihc ihd =>
    intro ρ S st a w kn kx kr Q r h hn hx hr
    simp only [ex] at h
    refine wp_seq (ihc r h ?_ ?_ ?_)
    · intro ρ' S' st' a' w' r' h'; exact ihd r' h' hn hx hr
    · intro i ρ' S' st' a' w' r' h'; exact hx i _ _ _ _ _ r' h'
    · intro ρ' S' st' a' w' r' h'; exact hr _ _ _ _ _ r' h'
  | cond c x z ihx ihz =>
    intro ρ S st a w kn kx kr Q r h hn hx hr
    simp only [ex] at h
    split at h <;> try (cases h; done)
    rename_i v hv
    have hc := operand_sound hΓ r c
    rw [hv] at hc
    simp only [RepPV, RepLV] at hc
    refine wp_cond hc ?_
    cases v with
    | true => exact ihx r h hn hx hr
    | false => exact ihz r h hn hx hr
  | block id c ih =>
    intro ρ S st a w kn kx kr Q r h hn hx hr
    simp only [ex] at h
    refine wp_block (ih r h ?_ ?_ ?_)
    · intro ρ' S' st' a' w' r' h'; exact hn _ _ _ _ _ r' h'
    · intro i ρ' S' st' a' w' r' h'
      simp only [Exit.inBlock]
      cases hb : Nat.beq i id with
      | true => rw [hb] at h'; rw [if_pos (Nat.eq_of_beq_eq_true hb)]; exact hn _ _ _ _ _ r' h'
      | false => rw [hb] at h'; rw [if_neg (Nat.ne_of_beq_eq_false hb)]; exact hx i _ _ _ _ _ r' h'
    · intro ρ' S' st' a' w' r' h'; exact hr _ _ _ _ _ r' h'
  | loop c ih =>
    intro ρ S st a w kn kx kr Q r h hn hx hr
    simp only [ex] at h
    have key : ∀ n {ρ S st a w}, Rel P C ρ S st a w → loopF (fun st' k => ex Γ K c st' k kx kr) (headOf Γ c) n st = some y → Code.rounds P c Q n a w := by
      intro n
      induction n with
      | zero => intro ρ S st a w r h; simp only [loopF] at h; cases h
      | succ n ihn =>
        intro ρ S st a w r h
        simp only [loopF] at h
        rw [rounds_succ]
        refine ih r h ?_ ?_ ?_
        · intro ρ' S' st' a' w' r' h'
          exact head_sound r' h' fun ρ2 S2 st2 r2 h2 => ihn r2 h2
        · intro i ρ' S' st' a' w' r' h'; exact hx i _ _ _ _ _ r' h'
        · intro ρ' S' st' a' w' r' h'; exact hr _ _ _ _ _ r' h'
    exact head_sound r h fun ρ2 S2 st2 r2 h2 => wp_loop_rounds _ (key _ r2 h2)
  | exit id => intro ρ S st a w kn kx kr Q r h hn hx hr; exact wp_exit (hx id _ _ _ _ _ r h)
  | ret => intro ρ S st a w kn kx kr Q r h hn hx hr; exact wp_ret (hr _ _ _ _ _ r h)
  | _ => intro ρ S st a w kn kx kr Q r h; simp only [ex] at h; cases h
end Go.PM

/-! PmFn -/
namespace Go.PM
open Go.RowKit
set_option linter.unusedVariables false
set_option linter.unusedSimpArgs false
variable {P : Program} {Γ : Env} {C : Ctx} {ρ : Nat → Value} {S : Nat → Prop} {st : St} {a : Act} {w : World}

theorem RepA.len : ∀ {t : Ty} {w S} {x : Den t} {vs}, RepA P t w S x vs → vs.length = arity t := by
  intro t
  induction t with
  | unit => intro w S x vs h; simp only [RepA] at h; subst h; rfl
  | pair t1 t2 _ ih => intro w S x vs h; simp only [RepA] at h; obtain ⟨cs, vs', rfl, h1, h2⟩ := h; simp [arity, ih h2]
  | _ => intro w S x vs h; simp only [RepA] at h

theorem startT_sound {m : Nat → Blk} : ∀ (t : Ty) (x : Den t) (vs : List Value) (pre rest : List Value), RepA P t w S x vs → (∀ u ∈ rest, u = undef) →
    ∀ d, pre.length ≤ d → RepPV P ρ m w S (startT t x pre.length d) ((pre ++ vs ++ rest).getD d undef) := by
  intro t
  induction t with
  | pair t1 t2 _ ih =>
    intro x vs pre rest h hr d hd
    simp only [RepA] at h
    obtain ⟨cs, vs', rfl, h1, h2⟩ := h
    simp only [startT]
    by_cases e : d = pre.length
    · subst e
      rw [upd_same]
      have : (pre ++ valOf t1.agg cs :: vs' ++ rest).getD pre.length undef = valOf t1.agg cs := by simp [List.getD]
      rw [this]
      exact ofCells_sound (RepC.ofD h1)
    · rw [upd_other _ _ e]
      have := ih x.2 vs' (pre ++ [valOf t1.agg cs]) rest h2 hr d (by simp; omega)
      simpa using this
  | _ => intro x vs pre rest h hr d hd; exact trivial

def oneRes (tmps : Array Value) (x : ResultVar) : Sem Value :=
  match x with
  | .tmp t => pure (tmps.getD t undef)
  | .cell a t => do loadVar t (← asAddr (tmps.getD a undef))

theorem results_sound (hΓ : EnvOK P C.G Γ) (r : Rel P C ρ S st a w) : ∀ (rs : List ResultVar) (l : List PV), results Γ rs st = some l →
    ∃ vs, (rs.mapM (oneRes a.tmps)).run P w = .ok vs w ∧ All2 (RepPV P ρ st.m w S) l vs := by
  intro rs
  induction rs with
  | nil => intro l h; simp only [results] at h; cases h; exact ⟨[], by simp, trivial⟩
  | cons x rs ih =>
    intro l h
    cases x with
    | tmp d =>
      simp only [results] at h
      split at h <;> try (cases h; done)
      rename_i l' hl
      cases h
      obtain ⟨vs, h1, h2⟩ := ih l' hl
      refine ⟨_ :: vs, ?_, r.tm d, h2⟩
      rw [List.mapM_cons]
      simp only [oneRes, Sem.run_bind, Sem.run_pure, Result.andThen_ok]
      rw [h1]; rfl
    | cell b t =>
      simp only [results] at h
      split at h <;> try (cases h; done)
      rename_i row blk c hT hb
      split at h <;> try (cases h; done)
      rename_i lv cs l' hm hl
      obtain ⟨hle, h⟩ := bif_none h
      have hle' : c + row.ty.size ≤ cs.length := Nat.le_of_ble_eq_true hle
      cases h
      obtain ⟨vs, h1, h2⟩ := ih l' hl
      have htm := r.tm b
      rw [hb] at htm
      simp only [RepPV, RepLV, hm] at htm
      obtain ⟨_, g, hg1, hg2⟩ := htm
      have hbk := r.mem blk
      unfold RepBlk at hbk; rw [hm] at hbk
      obtain ⟨g', T, us, hb1, hb2, hb3, hb4, hb5⟩ := hbk
      rw [hg1] at hb1; cases hb1
      have hlen := All2.length hb4
      have hul : ((us.drop c).take row.ty.size).length = row.ty.size := by simp; omega
      have h1' : row.ty.agg = false → ((us.drop c).take row.ty.size).length = 1 := fun hg => by rw [hul]; cases hty : row.ty <;> rw [hty] at hg <;> simp [Ty.agg] at hg <;> rfl
      have hrun := run_load_lies (hΓ.T t row hT) hul (lies_row hb3 c fun j u hu => by
        have := getElem?_take_drop hu
        simpa using this) h1'
      refine ⟨_ :: vs, ?_, ofCells_sound ⟨_, All2.take _ (All2.drop _ hb4), rfl, h1'⟩, h2⟩
      rw [List.mapM_cons]
      have hA : (asAddr (a.tmps.getD b undef)).run P w = .ok ⟨g, c, none⟩ w := by rw [hg2]; simp [asAddr]
      simp only [oneRes, Sem.run_bind, Sem.run_pure, Result.andThen_ok, hA, hrun]
      rw [h1]; rfl

theorem ownsRow_rebase {w : World} {b b' e size : Nat} {v : Value} {n : Nat} {xs : List Value} (h : w.ownsRow b e size v n xs) (hb : ∀ g, vblk v = some g → b' ≤ g) : w.ownsRow b' e size v n xs := by
  refine ⟨h.1, ?_⟩
  rcases h.2 with h | ⟨g, cap, cur, h1, h2, rest⟩
  · exact .inl h
  · exact .inr ⟨g, cap, cur, h1, hb g (by rw [h1]; rfl), rest⟩

theorem toRes_sound (r : Rel P C ρ S st a w) : ∀ (t : Ty) (fr : List (Option Nat)) (pvs : List PV) (vs : List Value) (x : Den t) (f g : List Nat), toRes st.m t fr pvs = some (x, f, g) → All2 (RepPV P ρ st.m w S) pvs vs →
    (∀ b ∈ f, isRV (st.m b)) ∧ (∀ b ∈ g, (st.m b).live = true) ∧ ∀ S' : Nat → Prop, (∀ k, S k → S' k) → (∀ b ∈ f, ∀ q, vb (ρ b) q → S' q) → (∀ b ∈ g, ∀ q, vb (ρ b) q → C.w0.heap.size ≤ q) →
      RepR P t fr w S' C.w0.heap.size x vs (g.flatMap fun i => vbl (ρ i)) := by
  intro t
  induction t with
  | unit =>
    intro fr pvs vs x f g h hr
    match pvs, vs, h, hr with
    | [], [], h, _ => simp only [toRes] at h; cases h; exact ⟨by simp, by simp, fun _ _ _ _ => by simp [RepR]⟩
  | pair t1 t2 _ ih =>
    intro fr pvs vs x f g h hr
    match pvs, vs, hr with
    | [], [], _ => cases t1 <;> cases fr <;> simp only [toRes] at h <;> first | (cases h; done) | (rename_i q _; cases q <;> simp only [toRes] at h <;> cases h)
    | pv :: pvs, v :: vs, ⟨h1, h2⟩ =>
    by_cases hfr : fr.headD none = none
    · have h' : ∃ gg cs x1 f1 y1 f2, pv.cells = some (gg, cs) ∧ gg = t1.agg ∧ toDen st.m t1 cs = some (x1, f1, []) ∧ toRes st.m t2 fr.tail pvs = some (y1, f2, g) ∧ x = (x1, y1) ∧ f = f1 ++ f2 := by
        have e : toRes st.m (.pair t1 t2) fr (pv :: pvs) = (match fr.headD none, pv.cells with
            | none, some (g, cs) => bif g == t1.agg then match toDen st.m t1 cs, toRes st.m t2 fr.tail pvs with
              | some (x, f, []), some (y, f', g) => some ((x, y), f ++ f', g)
              | _, _ => none else none
            | _, _ => none) := by
          cases fr with
          | nil => cases t1 <;> rfl
          | cons q fr => simp at hfr; subst hfr; cases t1 <;> rfl
        rw [e, hfr] at h
        split at h <;> try (cases h; done)
        rename_i gg cs heq hc
        obtain ⟨hg, h⟩ := bif_none h
        split at h <;> try (cases h; done)
        rename_i x1 f1 y1 f2 g2 hd ht
        cases h
        exact ⟨gg, cs, x1, f1, y1, f2, hc, by simpa using hg, hd, ht, rfl, rfl⟩
      obtain ⟨gg, cs, x1, f1, y1, f2, hc, hgg, hd, ht, rfl, rfl⟩ := h'
      subst hgg
      obtain ⟨us, k1, k2, k3⟩ := cells_sound h1 hc
      obtain ⟨l1, vs1, vs2, e1, l2, l3⟩ := toDen_sound r _ _ _ _ _ _ hd k1
      have : vs2 = [] := by
        cases vs2 with
        | nil => rfl
        | cons _ _ => exact l2.elim
      subst this
      rw [List.append_nil] at e1
      subst e1
      obtain ⟨m1, m2, m3⟩ := ih _ _ _ _ _ _ ht h2
      refine ⟨fun b hb => (List.mem_append.1 hb).elim (l1 b) (m1 b), m2, fun S' hS hf hloc => ?_⟩
      have hD := l3 S' hS (fun b hb => hf b (List.mem_append.2 (.inl hb)))
      have hR := m3 S' hS (fun b hb => hf b (List.mem_append.2 (.inr hb))) hloc
      cases fr with
      | nil => cases t1 <;> (simp only [RepR]; exact ⟨rfl, us, vs, by rw [k2], hD, hR⟩)
      | cons q fr => simp at hfr; subst hfr; cases t1 <;> (simp only [RepR]; exact ⟨rfl, us, vs, by rw [k2], hD, hR⟩)
    · cases fr with
      | nil => exact absurd rfl hfr
      | cons q fr =>
        cases q with
        | none => exact absurd rfl hfr
        | some tid =>
          cases t1 with
          | sl e =>
            simp only [toRes] at h
            split at h <;> try (cases h; done)
            · rename_i i
              split at h <;> try (cases h; done)
              · rename_i e0 e' xs hm
                obtain ⟨he0, h3⟩ := bif_none h
                clear h
                simp only [Bool.and_eq_true] at he0
                have htid : tid < 1000000 := by simpa using he0.2
                have he0 := Nat.eq_of_beq_eq_true he0.1
                subst he0
                split at h3 <;> try (cases h3; done)
                rename_i ys y1 f1 g1 hc ht
                cases h3
                obtain ⟨he, hc⟩ := castList hc
                subst he; subst hc
                obtain ⟨m1, m2, m3⟩ := ih _ _ _ _ _ _ ht h2
                have hlive : (st.m i).live = true := by rw [hm]; rfl
                simp only [RepPV, RepLV, hm] at h1
                have hb := r.mem i
                unfold RepBlk at hb; rw [hm] at hb
                obtain ⟨cells, hb1, hb2, _⟩ := hb
                refine ⟨m1, fun b hb => ?_, fun S' hS hf hloc => ?_⟩
                · rcases List.mem_cons.1 hb with rfl | hb
                  · exact hlive
                  · exact m2 b hb
                · simp only [RepR]
                  have hhd : hdV (ρ i) = ρ i := by obtain ⟨A, n, c, e1⟩ := ownsRow_slice hb1; rw [e1]; rfl
                  exact ⟨ρ i, vs, _, by rw [h1.2, hhd], NewAt.row htid (ownsRow_rebase hb1 (fun g hg => hloc i (List.mem_cons_self ..) g (vb_of hg))) (Es.mono (fun x cs h => RepD.mono (fun b hb => ⟨hS b hb, rfl⟩) h) hb2), List.flatMap_cons, m3 S' hS hf (fun b hb => hloc b (List.mem_cons_of_mem _ hb))⟩
              · rename_i t1 t2 e' xs u hm
                obtain ⟨he0, h3⟩ := bif_none h
                clear h
                simp only [Bool.and_eq_true, Bool.not_eq_true'] at he0
                have ht1 := Nat.eq_of_beq_eq_true he0.1
                have ht2 := Nat.eq_of_beq_eq_true he0.2.1
                have htid : 1000000 ≤ tid := by
                  have := he0.2.2
                  rcases Nat.lt_or_ge tid 1000000 with h | h
                  · have h : Nat.blt tid 1000000 = true := by simpa using h
                    rw [h] at this; cases this
                  · exact h
                subst ht1; subst ht2
                split at h3 <;> try (cases h3; done)
                rename_i ys y1 f1 g1 hc ht
                cases h3
                obtain ⟨he, hc⟩ := castTy_eq _ _ _ _ _ hc
                subst he; subst hc
                obtain ⟨m1, m2, m3⟩ := ih _ _ _ _ _ _ ht h2
                have hlive : (st.m i).live = true := by rw [hm]; rfl
                simp only [RepPV, RepLV, hm] at h1
                have hb := r.mem i
                unfold RepBlk at hb; rw [hm] at hb
                obtain ⟨v0, hs, hb1, hb2, _⟩ := hb
                refine ⟨m1, fun b hb => ?_, fun S' hS hf hloc => ?_⟩
                · rcases List.mem_cons.1 hb with rfl | hb
                  · exact hlive
                  · exact m2 b hb
                · simp only [RepR]
                  refine ⟨ρ i, vs, _, by rw [h1.2], .inr ⟨htid, v0, hs, hb1, ?_⟩, List.flatMap_cons, m3 S' hS hf (fun b hb => hloc b (List.mem_cons_of_mem _ hb))⟩
                  have hl0 : ∀ g, vb (.tuple (v0 :: hs).toArray) g → C.w0.heap.size ≤ g := fun g hg => hloc i (List.mem_cons_self ..) g (by rw [hb1]; exact hg)
                  have hb3 := hb2.mono (w' := w) (S' := S') (fun b hb => ⟨hS b hb, rfl⟩) (fun _ _ => rfl)
                  obtain ⟨cells, c1, c2⟩ := hb3.row
                  exact ⟨hb3.len, ⟨cells, ownsRow_rebase c1 (fun g hg => hl0 g (vb_tuple_hd hg)), c2⟩, fun p x hp => by
                    obtain ⟨n, cs, d1, d2⟩ := hb3.inn p x hp
                    exact ⟨n, cs, ownsRow_rebase d1 (fun g hg => hl0 g (vb_tuple_inn hp hg)), d2⟩, hb3.nd⟩
            · obtain ⟨htid, h3⟩ := bif_none h
              clear h
              split at h3 <;> try (cases h3; done)
              rename_i y1 f1 g1 ht
              cases h3
              obtain ⟨m1, m2, m3⟩ := ih _ _ _ _ _ _ ht h2
              simp only [RepPV, RepLV] at h1
              subst h1
              refine ⟨m1, m2, fun S' hS hf hloc => ?_⟩
              simp only [RepR]
              exact ⟨.slice none 0 0, vs, _, rfl, NewAt.row (cells := []) (by simpa using htid) ⟨by simp, .inl ⟨rfl, rfl⟩⟩ (by simp [Es]), rfl, m3 S' hS hf hloc⟩
          | _ => simp only [toRes, List.headD_cons] at h; cases h
  | _ => intro fr pvs vs x f g h hr; cases pvs <;> simp only [toRes] at h <;> cases h

theorem nodup_of {l : List Nat} (h : nodupB l = true) : l.Nodup := by
  induction l with
  | nil => exact List.nodup_nil
  | cons a l ih =>
    simp only [nodupB, Bool.and_eq_true, Bool.not_eq_true', List.contains_eq_mem] at h
    exact List.nodup_cons.2 ⟨by simpa using h.1, ih h.2⟩

theorem finish_core (hΓ : EnvOK P C.G Γ) (r : Rel P C ρ S st a w) {fn : Func} {t : Ty} {fr : List (Option Nat)} {l : List PV} {y : Den t} {f g : List Nat} (hl : results Γ fn.results.toList st = some l) (ht : toRes st.m t fr l = some (y, f, g))
    (hnd : g.Nodup) (hdis : ∀ b ∈ g, b ∉ f) (hmx : ∀ q, C.mx q → (st.m 0).live = true ∧ 0 ∉ f ∧ 0 ∉ g ∧ vb (ρ 0) q) :
    ∃ vs' G S1, (Go.results fn a.tmps).run P w = .ok (tupleOf vs') w ∧ Rel P C ρ S1 { st with m := Go.PM.still f st.m } a w ∧ (∀ q, S1 q → (C.S0 q ∨ (C.w0.heap.size ≤ q ∧ q < w.heap.size ∧ q ∉ G))) ∧
      RepR P t fr w (fun b => C.S0 b ∨ (C.w0.heap.size ≤ b ∧ b < w.heap.size ∧ b ∉ G)) C.w0.heap.size y vs' G ∧ G.Nodup := by
  obtain ⟨vs, hrun, hall⟩ := results_sound hΓ r _ _ hl
  obtain ⟨m1, m2, m3⟩ := toRes_sound r t fr l vs y f g ht hall
  obtain ⟨S1, r1, hS1, hf1⟩ := r.stillS f
  have hlive : ∀ b ∈ g, (Go.PM.still f st.m b).live = true := fun b hb => by rw [still_at, if_neg (hdis b hb)]; exact m2 b hb
  have hG : ∀ q ∈ g.flatMap (fun i => vbl (ρ i)), ¬ S1 q := by
    intro q hq
    obtain ⟨i, hi, hv⟩ := List.mem_flatMap.1 hq
    exact r1.out i (hlive i hi) q (mem_vbl.1 hv)
  have hnx : ∀ q, C.mx q → ¬ S1 q := by
    intro q hq
    obtain ⟨h1, h2, _, h3⟩ := hmx q hq
    exact r1.out 0 (show (Go.PM.still f st.m 0).live = true by rw [still_at, if_neg h2]; exact h1) q h3
  have hsub : ∀ q, S1 q → (C.S0 q ∨ (C.w0.heap.size ≤ q ∧ q < w.heap.size ∧ q ∉ g.flatMap (fun i => vbl (ρ i)))) := fun q hq => by
    rcases r1.s1 q hq with h | h | h
    · exact .inl h
    · exact .inr ⟨h, r1.sb q hq, fun hm => hG q hm hq⟩
    · exact absurd hq (hnx q h)
  have hloc : ∀ b ∈ g, ∀ q, vb (ρ b) q → C.w0.heap.size ≤ q := by
    intro b hb q hq
    rcases r.loc b (m2 b hb) q hq with h | h
    · exact h
    · obtain ⟨h1, _, h2, h3⟩ := hmx q h
      exact absurd h3 (r.inj b 0 (fun e => h2 (e ▸ hb)) (m2 b hb) h1 q hq)
  refine ⟨vs, g.flatMap (fun i => vbl (ρ i)), S1, ?_, r1, hsub, m3 _ (fun q hq => hsub q (hS1 q hq)) (fun b hb q hq => hsub q (hf1 b hb (by have := m1 b hb; unfold isRV at this; exact this) q hq)) hloc, ?_⟩
  · have e : Go.results fn a.tmps = (do let vs ← fn.results.mapM (oneRes a.tmps); pure (if h : vs.size = 1 then vs[0] else .tuple vs)) := by
      unfold Go.results
      congr 1
    rw [e, Array.mapM_eq_mapM_toList]
    simp only [Sem.run_bind, Sem.run_pure, Sem.run_map, hrun, Result.andThen_ok]
    match vs with
    | [] => rfl
    | [v] => rfl
    | _ :: _ :: _ => simp [tupleOf]
  · have hone : ∀ i, (st.m i).live = true → (vbl (ρ i)).Nodup := by
      intro i hi
      have hb := r.mem i
      unfold RepBlk at hb
      have hsl : ∀ v : Value, (∃ A n c, v = .slice A n c) → (vbl v).Nodup := by
        rintro v ⟨A, n, c, rfl⟩; cases A <;> simp [vbl, vblk]
      cases hm : st.m i <;> rw [hm] at hb hi <;> simp only [Blk.live] at hi <;> try (cases hi; done)
      · obtain ⟨cells, h1, _⟩ := hb; exact hsl _ (ownsRow_slice h1)
      · obtain ⟨g', _, _, h1, _⟩ := hb; rw [h1]; simp [vbl, vblk]
      · obtain ⟨g', h1, _⟩ := hb; rw [h1]; simp [vbl, vblk]
      · obtain ⟨_, _, cells, h1, _⟩ := hb; exact hsl _ (ownsRow_slice h1)
      · obtain ⟨v, hs, h1, h2, _⟩ := hb; rw [h1]; exact h2.nd
    have aux : ∀ l : List Nat, l.Nodup → (∀ b ∈ l, (st.m b).live = true) → (l.flatMap fun i => vbl (ρ i)).Nodup := by
      intro l
      induction l with
      | nil => intro _ _; exact List.nodup_nil
      | cons i l ih =>
        intro hn hl
        rw [List.flatMap_cons]
        have hn := List.nodup_cons.1 hn
        refine List.nodup_append.2 ⟨hone i (hl i (List.mem_cons_self ..)), ih hn.2 (fun b hb => hl b (List.mem_cons_of_mem _ hb)), fun q hq q' hq' e => ?_⟩
        subst e
        obtain ⟨j, hj, hvj⟩ := List.mem_flatMap.1 hq'
        exact r.inj i j (fun e => hn.1 (e ▸ hj)) (hl i (List.mem_cons_self ..)) (hl j (List.mem_cons_of_mem _ hj)) q (mem_vbl.1 hq) (mem_vbl.1 hvj)
    exact aux g hnd m2

theorem finish_sound (hΓ : EnvOK P C.G Γ) (r : Rel P C ρ S st a w) (hmv : C.mv = none) {fn : Func} {t : Ty} {fr : List (Option Nat)} {y : Den t} (h : finish Γ fn.results.toList t fr st = some y) :
    ∃ vs' G, (Go.results fn a.tmps).run P w = .ok (tupleOf vs') w ∧ Below C.w0.heap.size C.w0 w ∧
      RepR P t fr w (fun b => C.S0 b ∨ (C.w0.heap.size ≤ b ∧ b < w.heap.size ∧ b ∉ G)) C.w0.heap.size y vs' G ∧ G.Nodup := by
  unfold finish at h
  split at h <;> try (cases h; done)
  rename_i l hl
  split at h <;> try (cases h; done)
  rename_i x f g ht
  obtain ⟨hb, h⟩ := bif_none h
  cases h
  simp only [Bool.and_eq_true, List.all_eq_true, Bool.not_eq_true', List.contains_eq_mem, decide_eq_false_iff_not] at hb
  obtain ⟨hnd, hdis⟩ := hb
  have hno : ∀ q, ¬ C.mx q := by rintro q ⟨v, h1, _⟩; rw [hmv] at h1; cases h1
  obtain ⟨vs', G, S1, h1, _, _, h2, h3⟩ := finish_core hΓ r hl ht (nodup_of hnd) hdis (fun q hq => absurd hq (hno q))
  exact ⟨vs', G, h1, r.below.below hno, h2, h3⟩

theorem finishW_sound (hΓ : EnvOK P C.G Γ) (r : Rel P C ρ S st a w) {v0 : Value} (hmv : C.mv = some v0) {fn : Func} {tid : Nat} {e : Ty} {t : Ty} {fr : List (Option Nat)} {y : Den (.pair (.sl e) t)} (h : finishW Γ tid fn.results.toList (.pair (.sl e) t) fr st = some y) :
    ∃ vs' G cells, (Go.results fn a.tmps).run P w = .ok (tupleOf vs') w ∧ w.ownsRow 0 tid e.size v0 y.1.length cells ∧ Es (fun x es => RepD P e w (fun b => C.S0 b ∨ (C.w0.heap.size ≤ b ∧ b < w.heap.size ∧ b ∉ G)) x es) y.1 cells ∧
      RepR P t fr w (fun b => C.S0 b ∨ (C.w0.heap.size ≤ b ∧ b < w.heap.size ∧ b ∉ G)) C.w0.heap.size y.2 vs' G ∧ G.Nodup := by
  simp only [finishW] at h
  split at h <;> try (cases h; done)
  rename_i e0 e' xs hm
  have h' := bif_none h
  clear h
  obtain ⟨he0, h⟩ := h'
  have he0 := Nat.eq_of_beq_eq_true he0
  subst he0
  split at h <;> try (cases h; done)
  rename_i ys l hc hl
  split at h <;> try (cases h; done)
  rename_i x f g ht
  obtain ⟨hb, h⟩ := bif_none h
  cases h
  obtain ⟨he, hc⟩ := castList hc
  subst he; subst hc
  simp only [Bool.and_eq_true, List.all_eq_true, Bool.not_eq_true', List.contains_eq_mem, decide_eq_false_iff_not] at hb
  obtain ⟨hnd, hdis, hf0, hg0⟩ := hb
  have hρ := (r.mz v0 hmv).2
  obtain ⟨vs', G, S1, h1, r1, hsub, h2, h3⟩ := finish_core hΓ r hl ht (nodup_of hnd) hdis (fun q hq => by
    obtain ⟨v, hv, hq⟩ := hq
    rw [hmv] at hv; cases hv
    exact ⟨by rw [hm]; rfl, hf0, hg0, by rw [hρ]; exact vb_of hq⟩)
  have hb := r1.mem 0
  unfold RepBlk at hb
  rw [show ({ st with m := Go.PM.still f st.m } : St).m 0 = .row true e0 e' xs by show Go.PM.still f st.m 0 = _; rw [still_at, if_neg hf0, hm]] at hb
  obtain ⟨cells, hb1, hb2, _⟩ := hb
  exact ⟨vs', G, cells, h1, by rw [← hρ]; exact hb1, Es.mono (fun x cs h => RepD.mono (fun b hb => ⟨hsub b hb, rfl⟩) h) hb2, h2, h3⟩

theorem frame_tmps (vs : List Value) (n : Nat) (d : Nat) : (vs.toArray ++ Array.replicate (n - vs.toArray.size) undef).getD d undef = (vs ++ List.replicate (n - vs.length) undef).getD d undef := by
  have e0 : vs.toArray ++ Array.replicate (n - vs.toArray.size) undef = (vs ++ List.replicate (n - vs.length) undef).toArray := Array.toList_inj.1 (by simp)
  rw [e0]
  simp [Array.getD_eq_getD_getElem?, List.getD_eq_getElem?_getD]

/-- A function's calls, from the pure machine's answer. -/
theorem FnOK.of {G : Nat → Option GRow} (hΓ : EnvOK P G Γ) {g : Nat} {fn : Func} {p q : Ty} {fr : List (Option Nat)} {F : Den p → Option (Den q)} (hf : P.funcs[g]? = some fn) (hb : fn.body.isSome = true) (hname : (fn.name == "runtime.NumGoroutine") = false) (har : arity p ≤ fn.ntmps)
    (h : ∀ x y, F x = some y → ∃ K, exF Γ K fn p q fr x = some y) : FnOK P G g ⟨p, q, fr, F, none⟩ := by
  refine ⟨⟨fn, hf, hb, hname⟩, fun w S hS hgl x vs y ha hy => ?_⟩
  obtain ⟨K, hK⟩ := h x y hy
  unfold exF at hK
  obtain ⟨c, hc⟩ := Option.isSome_iff_exists.1 hb
  rw [hc] at hK
  simp only at hK
  have hlen : vs.length = arity p := RepA.len (t := p) ha
  refine calls_of_wp hf hc ?_
  have hsz : (vs.toArray ++ Array.replicate (fn.ntmps - vs.toArray.size) undef).size = fn.ntmps := by simp; omega
  have r0 : Rel P ⟨w, S, G, none⟩ (fun _ => undef) S (start fn.ntmps p x) { tmps := vs.toArray ++ Array.replicate (fn.ntmps - vs.toArray.size) undef, defers := [] } w := by
    refine ⟨rfl, BelowX.refl _ _ _, hS, fun _ h => h, fun _ h => .inl h, fun d => ?_, hsz, fun _ => trivial, fun _ _ _ h => (by cases h), fun _ h => (by cases h), fun _ h => (by cases h), hgl, fun _ h => (by cases h)⟩
    have := startT_sound (ρ := fun _ => undef) (m := fun _ => .free) p x vs [] (List.replicate (fn.ntmps - vs.length) undef) ha (fun u hu => List.eq_of_mem_replicate hu) d (Nat.zero_le _)
    show RepPV P _ (fun _ => Blk.free) w S (startT p x 0 d) ((vs.toArray ++ Array.replicate (fn.ntmps - vs.toArray.size) undef).getD d undef)
    rw [frame_tmps]
    simpa using this
  have fin : ∀ ρ' S' st' a' w', Rel P ⟨w, S, G, none⟩ ρ' S' st' a' w' → finish Γ fn.results.toList q fr st' = some y → a'.defers = [] ∧ ∃ v, (Go.results fn a'.tmps).run P w' = .ok v w' ∧
      (Below w.heap.size w w' ∧ ∃ vs' G', Ending.returned v = .returned (tupleOf vs') ∧ RepR P q fr w' (fun b => S b ∨ (w.heap.size ≤ b ∧ b < w'.heap.size ∧ b ∉ G')) w.heap.size y vs' G' ∧ G'.Nodup) := by
    intro ρ' S' st' a' w' r' h'
    obtain ⟨vs', G', h1, h2, h4, h5⟩ := finish_sound hΓ r' rfl h'
    exact ⟨r'.defers, _, h1, h2, vs', G', rfl, h4, h5⟩
  exact ex_sound (C := ⟨w, S, G, none⟩) hΓ c r0 hK (fun ρ' S' st' a' w' r' h' => fin _ _ _ _ _ r' h') (fun i ρ' S' st' a' w' r' h' => (by cases h')) (fun ρ' S' st' a' w' r' h' => fin _ _ _ _ _ r' h')

/-- The same for a function that writes a window on its first argument. -/
theorem FnOK.ofW {G : Nat → Option GRow} (hΓ : EnvOK P G Γ) {g tid : Nat} {fn : Func} {e q r : Ty} {fr : List (Option Nat)} {F : Den (.pair (.sl e) (.pair (.int .i64) (.pair (.int .i64) q))) → Option (Den (.pair (.sl e) r))} (hf : P.funcs[g]? = some fn) (hb : fn.body.isSome = true) (hname : (fn.name == "runtime.NumGoroutine") = false)
    (har : arity q + 1 ≤ fn.ntmps) (hlen : ∀ x y, F x = some y → y.1.length = x.1.length)
    (h : ∀ x y, F x = some y → ∃ K, exW Γ K fn tid (.pair (.sl e) (.pair (.int .i64) (.pair (.int .i64) q))) (.pair (.sl e) r) fr x = some y) : FnOK P G g ⟨.pair (.sl e) (.pair (.int .i64) (.pair (.int .i64) q)), .pair (.sl e) r, fr, F, some tid⟩ := by
  refine ⟨⟨fn, hf, hb, hname⟩, rfl, fun w S hS hgl xs off len x v0 cells v A cc vs y hown hEs hv0 hoff hv hlc hA ha hy => ?_⟩
  obtain ⟨K, hK⟩ := h _ y hy
  unfold exW at hK
  obtain ⟨c, hc⟩ := Option.isSome_iff_exists.1 hb
  rw [hc] at hK
  simp only at hK
  have hl : vs.length = arity q := RepA.len (t := q) ha
  refine calls_of_wp hf hc ?_
  have hsz : ((v :: vs).toArray ++ Array.replicate (fn.ntmps - (v :: vs).toArray.size) undef).size = fn.ntmps := by simp; omega
  have hvb : ∀ b : Nat, (upd (fun _ => Blk.free) 0 (Blk.row true tid e xs) b).live = true → b = 0 := by
    intro b hb
    by_cases eb : b = 0
    · exact eb
    · rw [upd_other _ _ eb] at hb; cases hb
  have r0 : Rel P ⟨w, S, G, some v0⟩ (fun _ => v0) S (startW fn.ntmps tid (.pair (.sl e) (.pair (.int .i64) (.pair (.int .i64) q))) (xs, (off : Int), (len : Int), x)) { tmps := (v :: vs).toArray ++ Array.replicate (fn.ntmps - (v :: vs).toArray.size) undef, defers := [] } w := by
    refine ⟨rfl, BelowX.refl _ _ _, hS, fun _ h => h, fun _ h => .inl h, fun d => ?_, hsz, fun b => ?_, fun b b' hne h h' => absurd ((hvb b h).trans (hvb b' h').symm) hne, fun b h g hg => hv0 g (vb_slice (ownsRow_slice hown) hg), fun b h g hg => .inr ⟨v0, rfl, vb_slice (ownsRow_slice hown) hg⟩, hgl, fun u hu => ⟨fun e => ?_, by cases hu; rfl⟩⟩
    · have := startT_sound (ρ := fun _ => v0) (m := upd (fun _ => .free) 0 (.row true tid e xs)) q x vs [v] (List.replicate (fn.ntmps - (v :: vs).length) undef) ha (fun u hu => List.eq_of_mem_replicate hu) d
      show RepPV P _ (upd (fun _ => Blk.free) 0 (.row true tid e xs)) w S (upd (startT q x 1) 0 (.one (.sub 0 (off : Int).toNat (len : Int).toNat)) d) (((v :: vs).toArray ++ Array.replicate (fn.ntmps - (v :: vs).toArray.size) undef).getD d undef)
      rw [frame_tmps]
      by_cases ed : d = 0
      · subst ed
        rw [upd_same]
        simp only [RepPV, RepLV, upd_same]
        refine ⟨by simp [hv, Value.oneCell'], by simpa using hoff, A, cc, by simp [hv], by simpa using hlc, by simpa using hA⟩
      · rw [upd_other _ _ ed]
        simpa using this (by simp; omega)
    · show RepBlk P _ (fun _ => v0) (upd (fun _ => Blk.free) 0 (.row true tid e xs)) w S b
      unfold RepBlk
      by_cases eb : b = 0
      · subst eb
        rw [upd_same]
        exact ⟨cells, hown, hEs, fun h => by cases h⟩
      · rw [upd_other _ _ eb]; trivial
    · have e : upd (fun _ => Blk.free) 0 (Blk.row true tid _ xs) 0 = .free := e
      rw [upd_same] at e
      cases e
  have fin : ∀ ρ' S' st' a' w', Rel P ⟨w, S, G, some v0⟩ ρ' S' st' a' w' → finishW Γ tid fn.results.toList (.pair (.sl e) r) fr st' = some y → a'.defers = [] ∧ ∃ v, (Go.results fn a'.tmps).run P w' = .ok v w' ∧
      (BelowX (fun b => vblk v0 = some b) w.heap.size w w' ∧ ∃ vs' G' cells', Ending.returned v = .returned (tupleOf vs') ∧ y.1.length = xs.length ∧ w'.ownsRow 0 tid e.size v0 y.1.length cells' ∧ Es (fun x es => RepD P e w' (fun b => S b ∨ (w.heap.size ≤ b ∧ b < w'.heap.size ∧ b ∉ G')) x es) y.1 cells' ∧
        RepR P r fr w' (fun b => S b ∨ (w.heap.size ≤ b ∧ b < w'.heap.size ∧ b ∉ G')) w.heap.size y.2 vs' G' ∧ G'.Nodup) := by
    intro ρ' S' st' a' w' r' h'
    obtain ⟨vs', G', cells', h1, h2, h3, h4, h5⟩ := finishW_sound hΓ r' rfl h'
    have hb := r'.below
    refine ⟨r'.defers, _, h1, ⟨hb.os, hb.tape, hb.output, hb.size, fun k hk hx => hb.block k hk (fun hx' => ?_)⟩, vs', G', cells', rfl, hlen _ _ hy, h2, h3, h4, h5⟩
    obtain ⟨u, hu, hq⟩ := hx'
    cases hu
    exact hx hq
  exact ex_sound (C := ⟨w, S, G, some v0⟩) hΓ c r0 hK (fun ρ' S' st' a' w' r' h' => fin _ _ _ _ _ r' h') (fun i ρ' S' st' a' w' r' h' => (by cases h')) (fun ρ' S' st' a' w' r' h' => fin _ _ _ _ _ r' h')
end Go.PM

/-! PmIn -/
namespace Go.PM
open Go.RowKit
set_option linter.unusedVariables false
set_option linter.unusedSimpArgs false

def fieldsB (g : Nat → Ty → Bool) : List (Nat × Nat) → Nat → Ty → Bool
  | [], _, .unit => true
  | (o, t) :: fs, n, .pair a b => Nat.beq o n && g t a && fieldsB g fs (n + a.size) b
  | _, _, _ => false
/-- The places of an array's elements. -/
def arrF (T : Nat → Option TRow) (e n : Nat) : List (Nat × Nat) := (List.range n).map fun i => (i * (match T e with
  | some er => er.ty.size
  | none => 0), e)
/-- Does a type of the program stand for plain data of this kind? -/
def shapeB (T : Nat → Option TRow) : Nat → Nat → Ty → Bool
  | 0, _, _ => false
  | f + 1, t, ty => match T t with
    | none => false
    | some row => match row.kind, ty with
      | .int k, .int k' => decide (k = k') && Nat.beq row.ty.size 1
      | .bool, .bool => Nat.beq row.ty.size 1
      | .str, .str => Nat.beq row.ty.size 1
      | .sl e, .sl te => Nat.beq row.ty.size 1 && (Nat.ble 1 te.size && shapeB T f e te)
      | .st fs, ty => Nat.beq row.ty.size ty.size && fieldsB (shapeB T f) fs 0 ty
      | .arr n e, ty => Nat.beq row.ty.size ty.size && fieldsB (shapeB T f) (arrF T e n) 0 ty
      | _, _ => false

/-- The plain data is in range, no row of it is longer than M. -/
def InD (M : Nat) : (t : Ty) → Den t → Prop
  | .int k, n => k.has n = true
  | .bool, _ => True
  | .str, s => s.size ≤ M
  | .sl e, xs => xs.length ≤ M ∧ ∀ x ∈ xs, InD M e x
  | .unit, _ => True
  | .pair a b, x => InD M a x.1 ∧ InD M b x.2
  | .ptr e, x => InD M e x
  | .fn _ _, _ => True

/-- A measure of what is read, that is no less than any part's, nor than how many parts there are. -/
structure BulkLaw {H : Type} (B : DataW H → Nat) : Prop where
  str : ∀ s : List UInt8, s.length ≤ B (.lit (.string s))
  len : ∀ a b, a.length ≤ B (.slice a b)
  elem : ∀ a b x, x ∈ a → B x ≤ B (.slice a b)
  part : ∀ l x, x ∈ l → B x ≤ B (.agg l)

theorem shape_size {P : Program} {T : Nat → Option TRow} (hT : ∀ t row, T t = some row → RowOK P t row) : ∀ {f t ty}, shapeB T f t ty = true → P.cellsOf t = ty.size := by
  intro f t ty h
  cases f with
  | zero => cases h
  | succ f =>
    simp only [shapeB] at h
    split at h
    · cases h
    rename_i row hrow
    obtain ⟨z, hz, _⟩ := (hT t row hrow).info
    have hs : P.cellsOf t = row.ty.size := by
      unfold Program.cellsOf
      cases hi : P.info? t with
      | none => rw [hi] at hz; cases hz
      | some i => rw [hi] at hz; simp at hz; simp [hz.2.1]
    rw [hs]
    split at h
    all_goals first
      | (cases h; done)
      | exact Nat.eq_of_beq_eq_true h
      | exact Nat.eq_of_beq_eq_true (Bool.and_eq_true_iff.1 h).1
      | exact Nat.eq_of_beq_eq_true (Bool.and_eq_true_iff.1 h).2

theorem cells_row {P : Program} {T : Nat → Option TRow} (hT : ∀ t row, T t = some row → RowOK P t row) {t : Nat} {row : TRow} (hrow : T t = some row) : P.cellsOf t = row.ty.size := by
  obtain ⟨z, hz, _⟩ := (hT t row hrow).info
  unfold Program.cellsOf
  cases hi : P.info? t with
  | none => rw [hi] at hz; cases hz
  | some i => rw [hi] at hz; simp at hz; simp [hz.2.1]
theorem lies_join {w : World} {ad : Addr} {l r : List Value} (h1 : Lies w ad l) (h2 : Lies w (ad.add l.length) r) : Lies w ad (l ++ r) := by
  intro j v hj
  by_cases h : j < l.length
  · rw [List.getElem?_append_left h] at hj; exact h1 j v hj
  · rw [List.getElem?_append_right (by omega)] at hj
    have := h2 (j - l.length) v hj
    rw [add_add', show l.length + (j - l.length) = j by omega] at this
    exact this

theorem rows_join {e : Ty} {P : Program} {w : World} {S : Nat → Prop} {M : Nat} {ad : Addr} : ∀ (n i : Nat), (∀ j, j < n → ∃ x : Den e, InD M e x ∧ ∃ cs, RepD P e w S x cs ∧ cs.length = e.size ∧ Lies w (ad.add ((i + j) * e.size)) cs) →
    ∃ xs : List (Den e), xs.length = n ∧ (∀ x, x ∈ xs → InD M e x) ∧ ∃ cells, Es (fun x es => RepD P e w S x es) xs cells ∧ Lies w (ad.add (i * e.size)) cells := by
  intro n
  induction n with
  | zero => intro i _; exact ⟨[], rfl, fun x h => (by cases h), [], rfl, fun j v h => (by simp at h)⟩
  | succ n ih =>
    intro i h
    obtain ⟨x, hx, cs, h1, h2, h3⟩ := h 0 (by omega)
    obtain ⟨xs, k1, k2, cells, k3, k4⟩ := ih (i + 1) (fun j hj => by
      have := h (j + 1) (by omega)
      rw [show i + 1 + j = i + (j + 1) by omega]; exact this)
    refine ⟨x :: xs, by simp [k1], fun y hy => ?_, cs ++ cells, ⟨cs, cells, rfl, h1, k3⟩, ?_⟩
    · rcases List.mem_cons.1 hy with rfl | hy
      · exact hx
      · exact k2 y hy
    · refine lies_join h3 ?_
      rw [h2, add_add', show i * e.size + e.size = (i + 1) * e.size by rw [Nat.add_mul, Nat.one_mul]]
      exact k4

theorem cell_block {w : World} {a : Addr} {v : Value} (h : w.cell? a = some v) : a.block < w.heap.size := by
  rcases Nat.lt_or_ge a.block w.heap.size with h' | h'
  · exact h'
  · have e : w.heap[a.block]? = none := by simp; omega
    simp [World.cell?, e] at h
theorem has_of_wf {k : IntKind} {n : Int} (h : (Lit.int k n).wf = true) : k.has n = true := by
  simpa [Lit.wf, IntKind.has] using h

theorem fields_rep {H : Type} {enc : TypeId × Value → H} {P : Program} {T : Nat → Option TRow} (hT : ∀ t row, T t = some row → RowOK P t row) {B : DataW H → Nat} {w : World} {sp : Nat → Bool} {hd : Bool} {M n : Nat} {g : Nat → Ty → Bool}
    (hs : ∀ t ty, g t ty = true → P.cellsOf t = ty.size)
    (ih : ∀ (t : Nat) (ty : Ty) (cs : List Value) (d : DataW H) (ps : List MemPlace), g t ty = true → DataW.trod enc P w 0 sp hd n t cs = some (d, ps) → B d ≤ M → ∃ x : Den ty, InD M ty x ∧ RepD P ty w (fun b => b < w.heap.size) x cs) :
    ∀ (F : List Field) (xs : List (DataW H × List MemPlace)) (o : Nat) (ty : Ty) (cs : List Value), xs.length = F.length → (∀ (i : Nat) (f : Field), F[i]? = some f → DataW.trod enc P w 0 sp hd n f.type ((cs.drop f.offset).take (P.cellsOf f.type)) = xs[i]?) →
      (∀ y ∈ xs, B y.1 ≤ M) → fieldsB g (F.map (fun f => (f.offset, f.type))) o ty = true → cs.length = o + ty.size →
      ∃ x : Den ty, InD M ty x ∧ RepD P ty w (fun b => b < w.heap.size) x (cs.drop o) := by
  intro F
  induction F with
  | nil =>
    intro xs o ty cs hl hx hp h hcs
    cases ty <;> simp only [List.map_nil, fieldsB] at h <;> try (cases h; done)
    refine ⟨(), trivial, ?_⟩
    simp only [Ty.size] at hcs
    show cs.drop o = []
    exact List.drop_eq_nil_of_le (by omega)
  | cons fd F ihF =>
    intro xs o ty cs hl hx hp h hcs
    cases ty <;> simp only [List.map_cons, fieldsB] at h <;> try (cases h; done)
    rename_i a b
    simp only [Bool.and_eq_true] at h
    obtain ⟨⟨ho, hg⟩, hr⟩ := h
    have ho := Nat.eq_of_beq_eq_true ho
    match xs, hl with
    | y :: xs, hl =>
      have h0 := hx 0 fd rfl
      simp only [List.getElem?_cons_zero] at h0
      obtain ⟨x, hx1, hx2⟩ := ih fd.type a _ y.1 y.2 hg h0 (hp y (List.mem_cons_self ..))
      simp only [Ty.size] at hcs
      obtain ⟨z, hz1, hz2⟩ := ihF xs (o + a.size) b cs (by simpa using hl) (fun i f hi => by
        have := hx (i + 1) f (by simpa using hi)
        simpa using this) (fun y hy => hp y (List.mem_cons_of_mem _ hy)) hr (by omega)
      refine ⟨(x, z), ⟨hx1, hz1⟩, (cs.drop o).take a.size, (cs.drop o).drop a.size, (List.take_append_drop _ _).symm, ?_, ?_⟩
      · rw [hs _ _ hg, ho] at hx2; exact hx2
      · rw [List.drop_drop]; exact hz2

/-- What is read of an argument is plain data, that lies where the argument lies. -/
theorem trod_rep {H : Type} {enc : TypeId × Value → H} {P : Program} {T : Nat → Option TRow} (hT : ∀ t row, T t = some row → RowOK P t row) {B : DataW H → Nat} (hB : BulkLaw B) {w : World} {sp : Nat → Bool} {hd : Bool} {M : Nat} :
    ∀ (f : Nat) (t : Nat) (ty : Ty) (n : Nat) (cs : List Value) (d : DataW H) (ps : List MemPlace), shapeB T f t ty = true → DataW.trod enc P w 0 sp hd n t cs = some (d, ps) → B d ≤ M →
      ∃ x : Den ty, InD M ty x ∧ RepD P ty w (fun b => b < w.heap.size) x cs := by
  intro f
  induction f with
  | zero => intro t ty n cs d ps h; cases h
  | succ f ih =>
    intro t ty n cs d ps h hr hM

    have hsize := shape_size hT h
    simp only [shapeB] at h
    split at h
    · cases h
    rename_i row hrow
    have hk := (hT t row hrow).kind
    split at h
    · rename_i k k' hkind
      rw [hkind] at hk
      simp only [Bool.and_eq_true, decide_eq_true_eq] at h
      obtain ⟨rfl, _⟩ := h
      obtain ⟨m, rfl, e, hw⟩ := DataW.trod_int hk hr
      exact ⟨m, has_of_wf hw, rfl⟩
    · rename_i hkind
      rw [hkind] at hk
      obtain ⟨b, rfl, e⟩ := DataW.trod_bool hk hr
      exact ⟨b, trivial, rfl⟩
    · rename_i hkind
      rw [hkind] at hk
      obtain ⟨s, rfl, e, hs⟩ := DataW.trod_string hk hr
      have e1 : d = .lit (.string s.data.toList) := (Prod.mk.inj e).1
      have := hB.str s.data.toList
      rw [← e1] at this
      have e2 : s.data.toList.length = s.size := rfl
      exact ⟨s, show s.size ≤ M by omega, rfl⟩
    · rename_i te tt hkind
      rw [hkind] at hk
      simp only [Bool.and_eq_true] at h
      obtain ⟨_, hts, h⟩ := h
      have hts := Nat.le_of_ble_eq_true hts
      rcases DataW.trod_slice hk hr with ⟨rfl, e⟩ | ⟨a, len, cap, elems, rest, n, rfl, rfl, e, hb, hl, hm, hlen, hel, hsp, hns⟩
      · exact ⟨[], ⟨by simp, fun x h => by cases h⟩, none, 0, rfl, by simp, .inl rfl⟩
      have e1 : d = .slice (elems.map (·.1)) (rest.map (·.1)) := (Prod.mk.inj e).1
      have hce := shape_size hT h
      have key := rows_join (e := tt) (P := P) (w := w) (S := fun b => b < w.heap.size) (M := M) (ad := a) len 0 (fun j hj => by
        have h1 := hel j hj
        rw [List.getElem?_eq_getElem (show j < elems.length by omega)] at h1
        obtain ⟨cs', h2, h3⟩ := Option.bind_eq_some_iff.1 h1
        obtain ⟨x, hx1, hx2⟩ := ih te tt n cs' _ _ h (show DataW.trod enc P w 0 sp hd n te cs' = some (elems[j].1, elems[j].2) by rw [h3]) (by
          have := hB.elem (elems.map (·.1)) (rest.map (·.1)) elems[j].1 (List.mem_map.2 ⟨_, List.getElem_mem _, rfl⟩)
          rw [← e1] at this
          omega)
        obtain ⟨_, hlc, hcell⟩ := World.cells?_some h2
        refine ⟨x, hx1, cs', hx2, by rw [hlc, hce], fun i v hi => ?_⟩
        have hi' : i < cs'.length := by
          rcases Nat.lt_or_ge i cs'.length with h | h
          · exact h
          · rw [List.getElem?_eq_none h] at hi; cases hi
        rw [Nat.zero_add, ← hce, hcell i (by omega), hi])
      obtain ⟨xs, k1, k2, cells, k3, k4⟩ := key
      have hM' := hB.len (elems.map (·.1)) (rest.map (·.1))
      rw [← e1] at hM'
      simp only [List.length_map] at hM'
      refine ⟨xs, ⟨by omega, k2⟩, some a, cap, by rw [k1], by omega, ?_⟩
      by_cases h0 : xs = []
      · exact .inl h0
      right
      rw [Nat.zero_mul] at k4
      have ea : a.add 0 = a := by simp [Addr.add]
      rw [ea] at k4
      refine ⟨a, cells, rfl, ?_, k3, k4⟩
      -- the first cell stands, so the block is there
      have hlen0 : 0 < len := by
        rcases Nat.eq_zero_or_pos len with h | h
        · rw [h] at k1; exact absurd (List.eq_nil_of_length_eq_zero k1) h0
        · exact h
      have h1 := hel 0 hlen0
      rw [List.getElem?_eq_getElem (show 0 < elems.length by omega)] at h1
      obtain ⟨cs', h2, h3⟩ := Option.bind_eq_some_iff.1 h1
      obtain ⟨_, hlc, hcell⟩ := World.cells?_some h2
      have h4 := hcell 0 (by omega)
      rw [List.getElem?_eq_getElem (show 0 < cs'.length by omega)] at h4
      have := cell_block h4
      rw [add_block', add_block'] at this
      exact this
    · rename_i ty _ _ fs hkind
      rw [hkind] at hk
      simp only [Bool.and_eq_true] at h
      obtain ⟨F, hF1, hF2⟩ := hk
      obtain ⟨xs, n, rfl, e, hlen, hxl, hx⟩ := DataW.trod_struct hF1 hr
      have e1 : d = .agg (xs.map (·.1)) := (Prod.mk.inj e).1
      have hx' : ∀ (i : Nat) (f : Field), F.toList[i]? = some f → DataW.trod enc P w 0 sp hd n f.type ((cs.drop f.offset).take (P.cellsOf f.type)) = xs[i]? := fun i f hi => hx i f (by simpa using hi)
      have hxl' : xs.length = F.toList.length := by simpa using hxl
      have hp : ∀ y ∈ xs, B y.1 ≤ M := fun y hy => by
        have := hB.part (xs.map (·.1)) y.1 (List.mem_map.2 ⟨_, hy, rfl⟩)
        rw [← e1] at this; omega
      have hcs : cs.length = 0 + ty.size := by rw [hlen, hsize]; omega
      have := fields_rep hT (g := shapeB T f) (n := n) (M := M) (B := B) (enc := enc) (w := w) (sp := sp) (hd := hd) (fun t ty h => shape_size hT h) (fun t ty cs d ps h1 h2 h3 => ih t ty n cs d ps h1 h2 h3) F.toList xs 0 ty cs hxl' hx' hp (by rw [hF2]; exact h.2) hcs
      simpa using this
    · rename_i ty _ _ n e hkind
      rw [hkind] at hk
      simp only [Bool.and_eq_true] at h
      have hk : P.underlying t = some (.array n e) := hk
      obtain ⟨xs, m, rfl, e1', hlen, hxl, hx⟩ := DataW.trod_array hk hr
      have e1 : d = .agg (xs.map (·.1)) := (Prod.mk.inj e1').1
      have hp : ∀ y ∈ xs, B y.1 ≤ M := fun y hy => by
        have := hB.part (xs.map (·.1)) y.1 (List.mem_map.2 ⟨_, hy, rfl⟩)
        rw [← e1] at this; omega
      have hcs : cs.length = 0 + ty.size := by rw [hlen, hsize]; omega
      obtain ⟨F, hF⟩ : ∃ F : List Field, F = (List.range n).map fun i => ({ name := "", type := e, offset := i * P.cellsOf e, embedded := false, tag := "", pkgPath := "", byteOffset := 0 } : Field) := ⟨_, rfl⟩
      have hFm : F.map (fun f => (f.offset, f.type)) = arrF T e n := by
        rw [hF, List.map_map]
        unfold arrF
        cases hTe : T e with
        | some er =>
          apply List.map_congr_left
          intro i _
          simp only [Function.comp, cells_row hT hTe]
        | none =>
          cases n with
          | zero => rfl
          | succ n =>
            exfalso
            have h2 := h.2
            unfold arrF at h2
            rw [List.range_succ_eq_map, List.map_cons] at h2
            cases ty <;> simp only [fieldsB] at h2 <;> try (cases h2; done)
            simp only [Bool.and_eq_true] at h2
            have h3 := h2.1.2
            cases f with
            | zero => cases h3
            | succ f => simp only [shapeB, hTe] at h3; cases h3
      have hx' : ∀ (i : Nat) (f : Field), F[i]? = some f → DataW.trod enc P w 0 sp hd m f.type ((cs.drop f.offset).take (P.cellsOf f.type)) = xs[i]? := fun i f hi => by
        rw [hF, List.getElem?_map] at hi
        cases hr : (List.range n)[i]? with
        | none => rw [hr] at hi; cases hi
        | some j =>
          rw [hr] at hi
          obtain ⟨hin, hj⟩ := List.getElem?_eq_some_iff.1 hr
          rw [List.getElem_range] at hj
          subst hj
          simp only [Option.map_some, Option.some.injEq] at hi
          subst hi
          exact hx i (by simpa using hin)
      have hxl' : xs.length = F.length := by rw [hF]; simpa using hxl
      have := fields_rep hT (g := shapeB T f) (n := m) (M := M) (B := B) (enc := enc) (w := w) (sp := sp) (hd := hd) (fun t ty h => shape_size hT h) (fun t ty cs d ps h1 h2 h3 => ih t ty m cs d ps h1 h2 h3) F xs 0 ty cs hxl' hx' hp (by rw [hFm]; exact h.2) hcs
      simpa using this
    · cases h
end Go.PM

/-! PmOut -/
namespace Go.PM
open Go.RowKit
set_option linter.unusedVariables false
set_option linter.unusedSimpArgs false

def shapesB (T : Nat → Option TRow) (f : Nat) : List Nat → Ty → Bool
  | [], .unit => true
  | t :: ts, .pair a b => shapeB T f t a && shapesB T f ts b
  | _, _ => false

theorem wide_val {P : Program} {T : Nat → Option TRow} (hT : ∀ t row, T t = some row → RowOK P t row) {f t : Nat} {ty : Ty} {w : World} {base : Nat} {v : Value} (h : shapeB T f t ty = true) (hv : Value.okWide P w .any base t v) :
    v = valOf ty.agg v.cells.toList := by
  cases f with
  | zero => cases h
  | succ f =>
    simp only [shapeB] at h
    split at h
    · cases h
    rename_i row hrow
    have hk := (hT t row hrow).kind
    split at h
    · rename_i hkind; rw [hkind] at hk
      obtain ⟨n, rfl⟩ := WideShapes.okWide_int hk hv; rfl
    · rename_i hkind; rw [hkind] at hk
      obtain ⟨n, rfl⟩ := WideShapes.okWide_bool hk hv; rfl
    · rename_i hkind; rw [hkind] at hk
      obtain ⟨n, rfl⟩ := WideShapes.okWide_string hk hv; rfl
    · rename_i hkind; rw [hkind] at hk
      obtain ⟨_, _, _, rfl⟩ := WideShapes.okWide_slice hk hv; rfl
    · rename_i ty _ _ fs hkind; rw [hkind] at hk
      obtain ⟨F, hF, hF2⟩ := hk
      obtain ⟨cs, rfl, _⟩ := WideShapes.okWide_struct hF hv
      have hag : ty.agg = true := by
        have h2 := (Bool.and_eq_true_iff.1 h).2
        cases fs <;> cases ty <;> first | rfl | (simp only [fieldsB] at h2; cases h2)
      rw [hag]; rfl
    · rename_i ty _ _ n e hkind; rw [hkind] at hk
      have hk : P.underlying t = some (.array n e) := hk
      have hag : ty.agg = true := by
        have h2 := (Bool.and_eq_true_iff.1 h).2
        generalize arrF T e n = fs at h2
        cases fs <;> cases ty <;> first | rfl | (simp only [fieldsB] at h2; cases h2)
      simp only [Value.okWide, hk] at hv
      obtain ⟨cs, rfl, _⟩ := hv
      rw [hag]; rfl
    · cases h

theorem trodAll_rep {H : Type} {enc : TypeId × Value → H} {P : Program} {T : Nat → Option TRow} (hT : ∀ t row, T t = some row → RowOK P t row) {B : DataW H → Nat} (hB : BulkLaw B) {w : World} {sp : Nat → Bool} {hd : Bool} {M f base : Nat} :
    ∀ (ts : List TypeId) (ty : Ty) (vs : List Value) (ds : List (DataW H)) (ps : List MemPlace), shapesB T f ts ty = true → DataW.TrodAll enc P w 0 sp hd ts vs ds ps → (∀ d ∈ ds, B d ≤ M) →
      (∀ (j : Nat) t v, ts[j]? = some t → vs[j]? = some v → Value.okWide P w .any base t v) →
      ds.length = ts.length ∧ ∃ x : Den ty, InD M ty x ∧ RepA P ty w (fun b => b < w.heap.size) x vs := by
  intro ts
  induction ts with
  | nil =>
    intro ty vs ds ps h hA hM hv
    cases ty <;> simp only [shapesB] at h <;> try (cases h; done)
    cases vs <;> cases ds <;> simp only [DataW.TrodAll] at hA
    exact ⟨rfl, (), trivial, rfl⟩
  | cons t ts ih =>
    intro ty vs ds ps h hA hM hv
    cases ty <;> simp only [shapesB] at h <;> try (cases h; done)
    rename_i a b
    simp only [Bool.and_eq_true] at h
    cases vs <;> cases ds <;> simp only [DataW.TrodAll] at hA
    rename_i v vs d ds
    obtain ⟨p, q, ⟨n, h1⟩, h2, _⟩ := hA
    obtain ⟨x, hx1, hx2⟩ := trod_rep hT hB f t a n _ _ _ h.1 h1 (hM d (List.mem_cons_self ..))
    obtain ⟨hl, y, hy1, hy2⟩ := ih b vs ds q h.2 h2 (fun d hd => hM d (List.mem_cons_of_mem _ hd)) (fun j t v h1 h2 => hv (j + 1) t v (by simpa using h1) (by simpa using h2))
    refine ⟨by simp [hl], (x, y), ⟨hx1, hy1⟩, v.cells.toList, vs, ?_, hx2, hy2⟩
    rw [← wide_val hT h.1 (hv 0 t v rfl rfl)]

theorem trodAll_stays {H : Type} {enc : TypeId × Value → H} {P : Program} (hl : laidOutB P = true) {W W' : World} {sp' : Nat → Bool} : ∀ (ts : List TypeId) (vs : List Value) (ds : List (DataW H)) (ps : List MemPlace),
    (∀ t ∈ ts, P.readableRec t = true ∧ t < P.types.size) → DataW.TrodAll enc P W 0 (fun _ => true) true ts vs ds ps → (∀ p ∈ ps, W.sameAt W' p) → (∀ p ∈ ps, sp' p.block = true) → DataW.TrodAll enc P W' 0 sp' true ts vs ds ps := by
  intro ts
  induction ts with
  | nil =>
    intro vs ds ps hr h hs hsp
    cases vs <;> cases ds <;> simp only [DataW.TrodAll] at h ⊢
    exact h
  | cons t ts ih =>
    intro vs ds ps hr h hs hsp
    cases vs <;> cases ds <;> simp only [DataW.TrodAll] at h ⊢
    obtain ⟨p, q, h1, h2, rfl⟩ := h
    exact ⟨p, q, WideElems.Trod_stays hl (hr t (List.mem_cons_self ..)).1 (hr t (List.mem_cons_self ..)).2 h1 (fun x hx => hs x (List.mem_append.2 (.inl hx))) (fun x hx => hsp x (List.mem_append.2 (.inl hx))),
      ih _ _ _ (fun t ht => hr t (List.mem_cons_of_mem _ ht)) h2 (fun x hx => hs x (List.mem_append.2 (.inr hx))) (fun x hx => hsp x (List.mem_append.2 (.inr hx))), rfl⟩

/-- A law's calls, and what its row asks of them. -/
theorem law_contract {H : Type} {enc : TypeId × Value → H} {P : Program} {T : Nat → Option TRow} (hT : ∀ t row, T t = some row → RowOK P t row) {B : DataW H → Nat} (hB : BulkLaw B) {G : Nat → Option GRow} {g : FuncId} {p : Ty} {F : Den p → Option (Den (.pair .bool .unit))}
    (hF : FnOK P G g ⟨p, .pair .bool .unit, [], F, none⟩) {M f : Nat} {fn : Func} (hsh : shapesB T f fn.params.toList p = true) (hlaw : ∀ x, InD M p x → F x = some (true, ())) {tb : TypeId} (htb : P.underlying tb = some .bool) (hres : fn.resultTypes = #[tb])
    {s : ChangeSpec} (hvars : s.vars = []) (hfn : ∀ ds : List (DataW H), ds.length = fn.params.toList.length → s.fn H ds = { results := [.lit (.bool true)], args := ds }) (hl : laidOutB P = true) (hr : ∀ t ∈ fn.params.toList, P.readableRec t = true ∧ t < P.types.size)
    {W : World} {base : Nat} {args : Array Value} {ds gs : List (DataW H)} {before : List MemPlace} (hval : ∀ (j : Nat) t v, fn.params[j]? = some t → args[j]? = some v → Value.okWide P W .any base t v)
    (hW : DataW.Whole enc P fn.params.toList s.vars false W args.toList ds gs before) (hgl : GlobOK P G W (fun b => b < W.heap.size)) (hbulk : ∀ d ∈ ds, B d ≤ M) :
    Calls P g args W fun e W' => ∃ v, e = .returned v ∧ s.post enc P fn false true false false W args v W' := by
  have hW' := hW
  obtain ⟨q, r, hA, hV, hps, hfz, hnd⟩ := hW
  rw [hvars] at hV
  obtain ⟨rfl, rfl⟩ : gs = [] ∧ r = [] := by
    cases gs <;> simp only [DataW.TrodVars] at hV
    exact ⟨rfl, hV⟩
  rw [List.append_nil] at hps
  subst hps
  obtain ⟨hlen, x, hx, hR⟩ := trodAll_rep (base := base) hT hB _ _ _ _ _ hsh hA hbulk (fun j t v h1 h2 => hval j t v (by simpa using h1) (by simpa using h2))
  have hc : PlainOK P G g p (.pair .bool .unit) [] F := hF.calls
  have := hc W (fun b => b < W.heap.size) (fun b h => h) hgl x args.toList (true, ()) hR (hlaw x hx)
  rw [Array.toArray_toList] at this
  refine this.mono ?_
  rintro e W1 ⟨hb, vs', G', rfl, hR', _⟩
  simp only [RepR, RepD, valOf, Ty.agg, cond_false] at hR'
  obtain ⟨_, cs, vs2, rfl, hcs, h2, _⟩ := hR'
  subst h2; subst hcs
  refine ⟨.bool true, rfl, ?_⟩
  have hlt : ∀ y ∈ before, y.block < W.heap.size := fun y hy => by simpa using hW'.lt y hy
  have hfd : s.fn H (ds ++ []) = { results := [.lit (.bool true)], args := ds } := by rw [List.append_nil]; exact hfn ds hlen
  refine ⟨ds, [], before, [], before, [], hW', ?_, ?_, ?_, hb.frame _, fun h => (by cases h)⟩
  · rw [hfd, hres]
    exact ⟨[], [], ⟨1, by simp [DataW.trod, Value.cells, htb]⟩, rfl, rfl⟩
  · rw [hfd]
    exact trodAll_stays hl _ _ _ _ hr hA (fun y hy => hb.same (hlt y hy)) (fun y hy => by simpa using hlt y hy)
  · rw [hfd, hvars]; rfl
end Go.PM

/-! PmSeat -/
namespace Go.PM
open Go.RowKit
set_option linter.unusedVariables false
variable {P : Program} {G : Nat → Option GRow}

theorem RowOK.of {t : TypeId} {row : TRow} (h1 : (P.info? t).map (fun i => (i.zero, i.size, i.bytes)) = some (some (valOf row.ty.agg (zeroV row.ty)), row.ty.size, row.bytes)) (h2 : (valOf row.ty.agg (zeroV row.ty)).cells.toList = zeroV row.ty)
    (hk : kindOK P t row.kind) (ha : row.kind.agg = row.ty.agg) : RowOK P t row := ⟨⟨_, h1, h2⟩, hk, ha⟩
def TypesOK (P : Program) (T : Nat → Option TRow) : Prop := ∀ t row, T t = some row → RowOK P t row
theorem types_nil : TypesOK P (fun _ => none) := fun _ _ h => by cases h
theorem types_cons {n : Nat} {E : TRow} {rest : Nat → Option TRow} (h : RowOK P n E) (hr : TypesOK P rest) : TypesOK P (fun i => bif Nat.beq i n then some E else rest i) := by
  intro i E' he
  simp only at he
  cases hb : Nat.beq i n with
  | true => rw [hb] at he; cases he; rw [Nat.eq_of_beq_eq_true hb]; exact h
  | false => rw [hb] at he; exact hr i E' he
def PhiOK (P : Program) (G : Nat → Option GRow) (Φ : Nat → Option Entry) : Prop := ∀ g E, Φ g = some E → FnOK P G g E
theorem phi_nil : PhiOK P G (fun _ => none) := fun _ _ h => by cases h
theorem phi_cons {n : Nat} {E : Entry} {rest : Nat → Option Entry} (h : FnOK P G n E) (hr : PhiOK P G rest) : PhiOK P G (fun i => bif Nat.beq i n then some E else rest i) := by
  intro i E' he
  simp only at he
  cases hb : Nat.beq i n with
  | true => rw [hb] at he; cases he; rw [Nat.eq_of_beq_eq_true hb]; exact h
  | false => rw [hb] at he; exact hr i E' he
/-- Nothing is said of a function that is never called. -/
theorem FnOK.dead {g : FuncId} {fn : Func} (hf : P.funcs[g]? = some fn) (hb : fn.body.isSome = true) (hname : (fn.name == "runtime.NumGoroutine") = false) : FnOK P G g ⟨.unit, .unit, [], fun _ => none, none⟩ :=
  ⟨⟨fn, hf, hb, hname⟩, fun w S _ _ x vs y _ h => by cases h⟩
end Go.PM

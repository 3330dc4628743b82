/-
  the functions that are walked by hand: bits.TrailingZeros32, slices.Clone. slices.Backward: what it yields. After the worked proof on slices.All. limbs.Compare. limbs.short. library functions by the shelf's contracts.
  No condition beyond those that each theorem names.
-/
import Derived.Test.YtjkgehohjicgjaaDoorQ
import Derived.Test.YtjkgehohjicgjaaDoorB
import Derived.Test.YtjkgehohjicgjaaDoorProg
import Derived.WalkKit
import Derived.Lib.TrailingZeros
import Derived.Lib.SliceRun
import Derived.Lib.Walk
import Derived.RangeFuncBox
import Derived.RangeFuncLeaves
import Derived.Shelf.Abstract
import Derived.OwnWalkIn
import Derived.TacticsInMore
import Derived.LoopNIn
import Derived.LoopIn
import Derived.Shelf.Strings.Search1
import Derived.Lib.Agree

/-! LHandA5 -/
namespace Go.L
open Go.PM Go.Proofs Go.RowKit
set_option linter.unusedVariables false
set_option linter.unusedSimpArgs false
set_option maxRecDepth 100000
def G : Nat → Option GRow := fun _ => none
/-- A fact laid aside. -/
structure Apart (p : Prop) : Prop where
  out : p
set_option maxHeartbeats 2000000 in
theorem clone_some (a : Addr) (n c : Nat) (cells : List Value) (w : World) (hn : cells.length = n) (hbig : n * 4 ≤ 140737488355328) (h1 : ∀ u ∈ cells, u.oneCell' = true) (hc : ∀ j u, cells[j]? = some u → w.cell? (a.add j) = some u) :
    Calls Tryd.prog 50 #[.slice (some a) n c] w fun e w' => ∃ v', e = .returned v' ∧ w'.ownsRow w.heap.size 72 1 v' n cells ∧ Below w.heap.size w w' := by
  obtain ⟨i0, hi, hz0, hz1, hz2⟩ : ∃ i, Tryd.prog.info? 72 = some i ∧ i.zero = some (.int .u32 0) ∧ i.size = 1 ∧ i.bytes = 4 := by
    have h : (Tryd.prog.info? 72).map (fun i => (i.zero, i.size, i.bytes)) = some (some (.int .u32 0), 1, 4) := by kernel_rfl
    cases hi : Tryd.prog.info? 72 with
    | none => rw [hi] at h; cases h
    | some i => rw [hi] at h; simp at h; exact ⟨i, rfl, h.1, h.2.1, h.2.2⟩
  have q23 : ∀ (w : World) (a : Option Addr) (n c n' c' : Nat), (binOp .eql 23 (.slice a n c) (.slice none n' c')).run Tryd.prog w = .ok (.bool a.isNone) w := fun w a n c n' c' => Lib.run_eql_slice_nil w _ _ a n c n' c' Tryd.underlying23
  have u23 : ∀ w, Sem.run Tryd.prog (underlying 23) w = .ok (TypeDesc.slice 72) w := run_underlying Tryd.underlying23
  have A : Apart (∀ j u, cells[j]? = some u → w.cell? (a.add j) = some u) := ⟨hc⟩
  clear hc
  go_enter Tryd.func50, Tryd.ntmps50
  go_wp2_with (at_builtin; refine wpList_append_own _ rfl _ _ 23 rfl w.heap.size 72 i0 (.int .u32 0) 1 4 Tryd.underlying23 hi hz0 hz1 hz2 rfl (by decide) _ _ _ rfl (World.ownsRow_made w #[] 0 (Nat.le_refl _) (Nat.zero_le _) rfl) a n c cells rfl ?qc1 ?qc2 ?qc3 ?qc4 ?qc5 ?qc6 ?_)
  case qc1 => simp; omega
  case qc2 =>
    intro j u hj
    refine Lib.cell?_alloc_some _ ?_
    exact A.out j u hj
  case qc3 => intro u hu; exact h1 u hu
  case qc4 => unfold maxLen; omega
  case qc5 => omega
  case qc6 => simp
  intro v' w1 hown hgrow hnil
  go_wp2
  go_ret
  refine ⟨v', rfl, by simpa using hown, ?_⟩
  exact ((Below.refl _ w).alloc (Nat.le_refl _) _).grown hgrow (by simp) (by intro k hk; simp [Value.ownBlock] at hk; omega)
set_option maxHeartbeats 1000000 in
theorem clone_nil (n c : Nat) (w : World) : Calls Tryd.prog 50 #[.slice none n c] w fun e w' => e = .returned (.slice none 0 0) ∧ w' = w := by
  have q23 : ∀ (w : World) (a : Option Addr) (n c n' c' : Nat), (binOp .eql 23 (.slice a n c) (.slice none n' c')).run Tryd.prog w = .ok (.bool a.isNone) w := fun w a n c n' c' => Lib.run_eql_slice_nil w _ _ a n c n' c' Tryd.underlying23
  go_enter Tryd.func50, Tryd.ntmps50
  go_wp2
  go_ret
  exact ⟨rfl, rfl⟩
theorem int_ones {k : IntKind} {P : Program} {w : World} {S : Nat → Prop} : ∀ {xs : List Int} {cs : List Value}, Es (fun (x : Int) es => RepD P (.int k) w S x es) xs cs → cs = xs.map (Value.int k)
  | [], cs, h => h
  | x :: xs, cs, h => by
    obtain ⟨c1, c2, rfl, h1, h2⟩ := h
    rw [show c1 = [.int k x] from h1, int_ones h2]; rfl
theorem int_es {k : IntKind} {P : Program} {w : World} {S : Nat → Prop} : ∀ (xs : List Int), Es (fun (x : Int) es => RepD P (.int k) w S x es) xs (xs.map (Value.int k))
  | [] => rfl
  | x :: xs => ⟨[.int k x], xs.map (Value.int k), rfl, rfl, int_es xs⟩
theorem fn_slices_Clone_api_Nat_uint32 : FnOK Tryd.prog G 50 ⟨(.pair (.sl (.int .u32)) .unit), (.pair (.sl (.int .u32)) .unit), [none], S.slices_Clone_api_Nat_uint32, none⟩ := by
  refine ⟨⟨_, Tryd.func50, by kernel_rfl, by kernel_rfl⟩, ?_⟩
  show PlainOK _ _ _ _ _ _ _
  intro w S hS hgl x vs y hA hy
  obtain ⟨x0, _⟩ := x
  obtain ⟨x, hx0⟩ : ∃ x : List Int, x = x0 := ⟨x0, rfl⟩
  subst hx0
  obtain ⟨cs, vs', rfl, h1, h2⟩ := hA
  have h2 : vs' = [] := h2
  subst h2
  have hy : (if fine x then some (x, ()) else none) = some y := hy
  split at hy <;> cases hy
  rename_i hx
  unfold fine at hx
  obtain ⟨A, c, rfl, hlc, hd⟩ := h1
  cases A with
  | none =>
    have hx0 : x = [] := by
      rcases hd with h | ⟨ad, cells, h, _⟩
      · exact h
      · cases h
    subst hx0
    refine (clone_nil _ _ w).mono ?_
    rintro e w' ⟨rfl, rfl⟩
    exact ⟨Below.refl _ _, [.slice none 0 0], [], rfl, ⟨rfl, [.slice none 0 0], [], rfl, ⟨none, 0, rfl, Nat.le_refl _, .inl rfl⟩, rfl, rfl⟩, List.nodup_nil⟩
  | some a =>
    have hc : ∀ j u, (x.map (Value.int .u32))[j]? = some u → w.cell? (a.add j) = some u := by
      intro j u hj
      rcases hd with h | ⟨ad, cells, h, _, h3, h4⟩
      · have : x = [] := h
        subst this; simp at hj
      · cases h
        have := int_ones h3
        subst this
        exact h4 j u hj
    refine (clone_some a x.length c (x.map (Value.int .u32)) w (by simp) (by omega) (fun u hu => by obtain ⟨z, _, rfl⟩ := List.mem_map.1 hu; rfl) hc).mono ?_
    rintro e w' ⟨v', rfl, hown, hb⟩
    refine ⟨hb, [v'], [], rfl, ⟨rfl, [v'], [], rfl, ?_, rfl, rfl⟩, List.nodup_nil⟩
    obtain ⟨hl, hown⟩ := hown
    rcases hown with ⟨rfl, h0⟩ | ⟨g, cap, cur, rfl, hb', hg, hrest⟩
    · have : x = [] := by
        apply List.eq_nil_of_length_eq_zero; omega
      subst this
      exact ⟨none, 0, rfl, Nat.le_refl _, .inl rfl⟩
    · have hlen : x.length * 1 = x.length := Nat.mul_one _
      have hlies : Lies w' ⟨g, 0, none⟩ (x.map (Value.int .u32)) := lies_row hg 0 (fun j v hj => by
        rw [← hrest.2.2.2] at hj
        rw [List.getElem?_take] at hj
        split at hj
        · rw [Nat.zero_add]; simpa using hj
        · cases hj)
      have hg' : g < w'.heap.size := by
        rcases Nat.lt_or_ge g w'.heap.size with h | h
        · exact h
        · rw [Array.getElem?_eq_none h] at hg; cases hg
      exact ⟨some ⟨g, 0, none⟩, cap, rfl, hrest.1, .inr ⟨⟨g, 0, none⟩, _, rfl, .inr ⟨hb', hg', by simp⟩, int_es x, hlies⟩⟩
end Go.L

/-! LHandB5 -/
namespace Go.L
open Go.PM Go.Proofs Go.RowKit
set_option linter.unusedVariables false
set_option linter.unusedSimpArgs false
attribute [local go_sem] Oper.semAt_some

/-- What has come when k rounds are over. -/
def upto {α : Type} (f : Nat → α) (k : Nat) : List α := (List.range k).map f
theorem upto_succ {α : Type} (f : Nat → α) (k : Nat) : upto f (k + 1) = upto f k ++ [f k] := by simp [upto, List.range_succ]
theorem upto_length {α : Type} (f : Nat → α) (k : Nat) : (upto f k).length = k := by simp [upto]
/-- A place of a row. -/
def At (zs : List Int) : Type := { q : Nat // q < zs.length }
/-- The k-th place that comes of a row, the last first. -/
def bk (zs : List Int) (hz : 0 < zs.length) (k : Nat) : At zs := ⟨zs.length - 1 - k, by omega⟩
def enc2 (zs : List Int) (x : At zs) : Array Value := #[Value.int .i64 (x.1 : Int), Value.int .u32 ((zs[x.1]?).getD 0)]

/-- Blocks below B, but those of X, are as they were. -/
def KX (X : Nat → Prop) (B : Nat) (W W' : World) : Prop := ∀ k, k < B → ¬ X k → W'.heap[k]? = W.heap[k]?
theorem KX.refl (X : Nat → Prop) (B : Nat) (W : World) : KX X B W W := fun _ _ _ => rfl
theorem KX.trans {X : Nat → Prop} {B : Nat} {a b c : World} (h : KX X B a b) (k : KX X B b c) : KX X B a c := fun i hi hx => (k i hi hx).trans (h i hi hx)
theorem KX.cell {X : Nat → Prop} {B : Nat} {W W' : World} (h : KX X B W W') {p : Addr} (hb : p.block < B) (hx : ¬ X p.block) : W'.cell? p = W.cell? p := World.cell?_of_block (h _ hb hx)
theorem KX.b {X : Nat → Prop} {B : Nat} {w : World} (hn : B ≤ w.heap.size) (W : World) (l : Nat) (o o' : Obj) (hl : w.heap.size ≤ l) (_ : W.heap[l]? = some o) (_ : o.isCells = false) (_ : o.isWalk = false) : KX X B W (W.putObj l o') :=
  fun k hk _ => World.putObj_heap_other (by omega)
theorem KX.of {X : Nat → Prop} {B B' : Nat} {W W' : World} (h : Below B' W W') (hB : B ≤ B') : KX X B W W' := fun k hk _ => h.block k (Nat.lt_of_lt_of_le hk hB)
theorem KX.setCell {X : Nat → Prop} {B : Nat} (W : World) (p : Addr) (v : Value) (hx : X p.block) : KX X B W (W.setCell p v) := fun k _ hk => Below.heap_setCell W p v k (fun e => hk (e ▸ hx))

set_option maxRecDepth 100000 in
set_option maxHeartbeats 2000000 in
theorem back1_in (X : Nat → Prop) (F : Fence) (n : Nat) (h80 : F.fn 80) (hro : F.round = none) (hn : 1 ≤ n) (l Bs n₀ b off cap : Nat) (zs : List Int) (hz : 0 < zs.length) (hreach : zs.length * 4 ≤ 140737488351232) (hb : b < n₀) (hbx : ¬ X b) (J Jx : List (At zs) → World → Prop)
    (hY : ∀ pre x W, J pre W → pre.length < zs.length → YieldAt F (n - 1) Tryd.prog l (enc2 zs x) W fun e W' =>
      (e = .returned (.bool true) ∧ J (pre ++ [x]) W' ∧ KX X n₀ W W') ∨ (e = .returned (.bool false) ∧ Jx (pre ++ [x]) W'))
    (W : World) (hBs : W.cell? ⟨Bs, 0, none⟩ = some (.slice (some ⟨b, off, none⟩) zs.length cap)) (hBn : Bs < n₀) (hBx : ¬ X Bs) (hc : ∀ j, j < zs.length → W.cell? ⟨b, off + j, none⟩ = some (.int .u32 ((zs[j]?).getD 0))) (h0 : J [] W) :
    CallsIn F n Tryd.prog 80 #[.func (.yield l) #[] #[], .pointer (some ⟨Bs, 0, none⟩)] W fun e W' => (∃ v, e = .returned v) ∧
      ((∃ ys, ys = upto (bk zs hz) zs.length ∧ J ys W') ∨ (∃ pre, (∃ k, k ≤ zs.length ∧ pre = upto (bk zs hz) k) ∧ Jx pre W')) := by
  refine callsIn_of_wp Tryd.func80 rfl h80 ?_ hro
  simp only [Tryd.ntmps80, List.size_toArray, List.length_cons, List.length_nil, Nat.reduceAdd, Nat.reduceSub, Array.replicate_succ, Array.replicate_zero, List.push_toArray, List.append_toArray, List.nil_append, List.cons_append]
  gi_wp2
  gi_loopw [3] (fun i wr => ∃ k : Nat, k ≤ zs.length ∧ i = .int .i64 ((zs.length : Int) - 1 - k) ∧ J (upto (bk zs hz) k) wr ∧ KX X n₀ W wr)
    (fun i _ => (intOf i + 1).toNat)
  case atStart => exact ⟨0, Nat.zero_le _, by simp, h0, KX.refl _ _ _⟩
  case round =>
    obtain ⟨k, hk, rfl, hJs, hnx⟩ := hrel
    by_cases hlt : k < zs.length
    · have hBs' : wr.cell? ⟨Bs, 0, none⟩ = some (.slice (some ⟨b, off, none⟩) zs.length cap) := (hnx.cell (p := ⟨Bs, 0, none⟩) hBn hBx).trans hBs
      have hcx : wr.cell? ⟨b, off + (zs.length - 1 - k), none⟩ = some (.int .u32 ((zs[zs.length - 1 - k]?).getD 0)) := (hnx.cell (p := ⟨b, off + (zs.length - 1 - k), none⟩) hb hbx).trans (hc _ (by omega))
      obtain ⟨fn, tmps, assign, body, hy, hR⟩ := hY _ (bk zs hz k) wr hJs (by rw [upto_length]; exact hlt)
      dsimp only [bk, enc2] at hy
      obtain ⟨q, hq⟩ : ∃ q : Nat, zs.length - 1 - k = q := ⟨_, rfl⟩
      have hqi : (zs.length : Int) - 1 - (k : Int) = (q : Int) := by omega
      rw [hq] at hcx hy
      rw [hqi]
      gi_wp2
      refine hR.mono ?_
      rintro e W3 (⟨rfl, hJ3, hk3⟩ | ⟨rfl, hJx3⟩)
      · -- the round goes on
        gi_wp2
        go_roundw
        case rel => exact ⟨k + 1, by omega, by simp; try omega, by rw [upto_succ]; exact hJ3, hnx.trans hk3⟩
        case measure => simp [intOf]
      · gi_wp2
        refine bodyPost_ret (results_none rfl _ _ _) rfl ?_
        exact ⟨⟨_, rfl⟩, .inr ⟨_, ⟨k + 1, by omega, (upto_succ _ _).symm⟩, hJx3⟩⟩
    · obtain rfl : k = zs.length := by omega
      have e : (zs.length : Int) - 1 - (zs.length : Int) = -1 := by omega
      rw [e]
      gi_wp2
      go_end0
      exact ⟨⟨_, rfl⟩, .inl ⟨_, rfl, hJs⟩⟩

set_option maxRecDepth 100000 in
set_option maxHeartbeats 1000000 in
/-- .. of a row without places: no round. -/
theorem back1_nil_in (F : Fence) (n : Nat) (h80 : F.fn 80) (hro : F.round = none) (l Bs : Nat) (A : Option Addr) (cap : Nat) {α : Type} (J : List α → World → Prop) (W : World) (hBs : W.cell? ⟨Bs, 0, none⟩ = some (.slice A 0 cap)) (h0 : J [] W) :
    CallsIn F n Tryd.prog 80 #[.func (.yield l) #[] #[], .pointer (some ⟨Bs, 0, none⟩)] W fun e W' => (∃ v, e = .returned v) ∧ J [] W' := by
  refine callsIn_of_wp Tryd.func80 rfl h80 ?_ hro
  simp only [Tryd.ntmps80, List.size_toArray, List.length_cons, List.length_nil, Nat.reduceAdd, Nat.reduceSub, Array.replicate_succ, Array.replicate_zero, List.push_toArray, List.append_toArray, List.nil_append, List.cons_append]
  gi_wp2
  gi_loopw [3] (fun i wr => i = .int .i64 (-1) ∧ J [] wr) (fun _ _ => 0)
  case atStart => exact ⟨by simp, h0⟩
  case round =>
    obtain ⟨rfl, hJs⟩ := hrel
    gi_wp2
    go_end0
    exact ⟨⟨_, rfl⟩, hJs⟩

set_option maxHeartbeats 1000000 in
/-- slices.Backward: the slice is boxed; the function captures the box. -/
theorem backward_in (F : Fence) (n : Nat) (h67 : F.fn 67) (hro : F.round = none) (a : Option Addr) (len cap : Nat) (w : World) :
    CallsIn F n Tryd.prog 67 #[.slice a len cap] w fun e w' => e = .returned (.func (.func 80) #[] #[.pointer (some ⟨w.heap.size, 0, none⟩)]) ∧ w' = w.alloc (.cells #[.slice a len cap] 23) := by
  refine callsIn_of_wp Tryd.func67 rfl h67 ?_ hro
  simp only [Tryd.ntmps67, List.size_toArray, List.length_cons, List.length_nil, Nat.reduceAdd, Nat.reduceSub, Array.replicate_succ, Array.replicate_zero, List.push_toArray, List.append_toArray, List.nil_append, List.cons_append]
  gi_wp2
  go_ret
  exact ⟨rfl, rfl⟩

/-- A slice's value and the digits that it holds, in a block below n₀. -/
def Digs (n₀ : Nat) (W : World) (sv : Value) (zs : List Int) : Prop :=
  (∃ A cap, sv = .slice A 0 cap ∧ zs = []) ∨ ∃ b off cap, sv = .slice (some ⟨b, off, none⟩) zs.length cap ∧ 0 < zs.length ∧ b < n₀ ∧ ∀ j, j < zs.length → W.cell? ⟨b, off + j, none⟩ = some (.int .u32 ((zs[j]?).getD 0))
theorem Digs.below {n₀ : Nat} {A B : World} (h : Below n₀ A B) {sv : Value} {zs : List Int} : Digs n₀ A sv zs → Digs n₀ B sv zs
  | .inl e => .inl e
  | .inr ⟨b, off, cap, e, h0, hb, hc⟩ => .inr ⟨b, off, cap, e, h0, hb, fun j hj => (h.cell (p := ⟨b, off + j, none⟩) hb).trans (hc j hj)⟩

set_option maxRecDepth 100000 in
theorem back_stops (X : Nat → Prop) (F : Fence) (n : Nat) (h80 : F.fn 80) (hro : F.round = none) (hn : 1 ≤ n) (Bs n₀ B : Nat) (sv : Value) (zs : List Int) (hreach : zs.length * 4 ≤ 140737488351232) (w : World) (hBs : Bs < B) (hBx : ¬ X Bs) (hB : B ≤ w.heap.size) (hn₀ : n₀ ≤ B) (hX : ∀ b, b < n₀ → ¬ X b)
    (hc : w.cell? ⟨Bs, 0, none⟩ = some sv) (hI : Digs n₀ w sv zs) :
    SeqStopsK F n Tryd.prog 80 #[.pointer (some ⟨Bs, 0, none⟩)] (enc2 zs) (KX X B) (fun ys => ys.map (·.1) = upto (fun k => zs.length - 1 - k) zs.length)
      (fun pre => ∃ k, k ≤ zs.length ∧ pre.map (·.1) = upto (fun k => zs.length - 1 - k) k) zs.length w := fun l J Jx W hW _ _ hY h0 => by
  have hc' := (hW.cell (p := ⟨Bs, 0, none⟩) (Nat.lt_of_lt_of_le hBs hB)).trans hc
  rcases hI.below (hW.mono (Nat.le_trans hn₀ hB)) with ⟨A, cap, rfl, rfl⟩ | ⟨b, off, cap, rfl, hz, hb, hcs⟩
  · exact (back1_nil_in F n h80 hro l Bs A cap J W hc' h0).mono fun e W' ⟨he, hj⟩ => ⟨he, .inl ⟨_, rfl, hj⟩⟩
  · refine (back1_in X F n h80 hro hn l Bs B b off cap zs hz hreach (Nat.lt_of_lt_of_le hb hn₀) (hX b hb) J Jx hY W hc' hBs hBx hcs h0).mono fun e W' h => ⟨h.1, ?_⟩
    have hmap : ∀ k, (upto (bk zs hz) k).map (·.1) = upto (fun k => zs.length - 1 - k) k := fun k => by simp [upto, bk, Function.comp_def]
    rcases h.2 with ⟨ys, rfl, hj⟩ | ⟨pre, ⟨k, hk, rfl⟩, hj⟩
    · exact .inl ⟨_, hmap _, hj⟩
    · exact .inr ⟨_, ⟨k, hk, hmap k⟩, hj⟩
end Go.L

/-! LHandC5 -/
namespace Go.L
open Go.PM Go.Proofs Go.RowKit
set_option linter.unusedVariables false
set_option linter.unusedSimpArgs false
attribute [local go_sem] Oper.semAt_some

/-- A row's digits, as the walk knows them. -/
theorem digs_of {P : Program} {w : World} {S : Nat → Prop} (hS : ∀ b, S b → b < w.heap.size) {x : List Int} {v : Value} (h : RepD P (.sl (.int .u32)) w S x [v]) :
    ∃ A c, v = .slice A x.length c ∧ Digs w.heap.size w v x := by
  obtain ⟨A, c, he, hlc, hd⟩ := h
  cases he
  refine ⟨A, c, rfl, ?_⟩
  rcases hd with h0 | ⟨ad, cells, rfl, hs, hE, hL⟩
  · have h0 : x = [] := h0
    subst h0
    exact .inl ⟨A, c, rfl, rfl⟩
  · by_cases h0 : x = []
    · subst h0; exact .inl ⟨_, c, rfl, rfl⟩
    · have := int_ones hE
      subst this
      have hpos : 0 < x.length := List.length_pos_iff.2 h0
      have hc : ∀ j, j < x.length → w.cell? (ad.add j) = some (.int .u32 ((x[j]?).getD 0)) := fun j hj => hL j _ (by simp [List.getElem?_eq_getElem hj])
      obtain ⟨b, off, spot⟩ := ad
      have hspot : spot = none := by simpa [Addr.add] using World.cell?_spot (hc 0 hpos)
      subst hspot
      refine .inr ⟨b, off, c, rfl, hpos, hS _ hs, fun j hj => ?_⟩
      have := hc j hj
      rwa [show (⟨b, off, none⟩ : Addr).add j = ⟨b, off + j, none⟩ by unfold Addr.add; split <;> simp_all] at this

set_option maxRecDepth 100000 in
set_option maxHeartbeats 4000000 in
theorem Compare_ne_in (F : Fence) (n : Nat) (h41 : F.fn 41) (hro : F.round = none) (A1 A2 : Option Addr) (l1 l2 c1 c2 : Nat) (hne : l1 ≠ l2) (w : World) :
    CallsIn F n Tryd.prog 41 #[.slice A1 l1 c1, .slice A2 l2 c2] w fun e W' => e = .returned (.int .i64 (if l1 < l2 then -1 else 1)) ∧ Below w.heap.size w W' := by
  have hne' : ((l1 : Int) == (l2 : Int)) = false := by simp; omega
  refine callsIn_of_wp_marks Tryd.func41 rfl h41 ?_ hro
  simp only [Tryd.ntmps41, List.size_toArray, List.length_cons, List.length_nil, Nat.reduceAdd, Nat.reduceSub, Array.replicate_succ, Array.replicate_zero, List.push_toArray, List.append_toArray, List.nil_append, List.cons_append]
  have fin : ∀ k : Int, (World.cell? ((w.alloc (Obj.cells #[Value.slice A2 l2 c2] 23)).alloc (Obj.cells #[Value.int IntKind.i64 k] 3)) ⟨w.heap.size + 1, 0, none⟩ = some (.int .i64 k)) ∧ Below w.heap.size w ((w.alloc (Obj.cells #[Value.slice A2 l2 c2] 23)).alloc (Obj.cells #[Value.int IntKind.i64 k] 3)) := fun k => by
    have bN := Boxed.new (w.alloc (.cells #[Value.slice A2 l2 c2] 23)) 3 (.int .i64 k)
    rw [World.size_alloc] at bN
    exact ⟨bN.cell, ((Below.refl _ w).alloc (Nat.le_refl _) _).alloc (by simp) _⟩
  by_cases hlt : l1 < l2
  · have hlt' : decide ((l1 : Int) < (l2 : Int)) = true := by simp; omega
    have hc5 := (fin (-1)).1
    rw [if_pos hlt]
    gi_wp2
    refine ⟨.int .i64 (-1), ?_, rfl, (fin (-1)).2⟩
    simp [results, Tryd.f41, go_sem, hc5]
  · have hlt' : decide ((l1 : Int) < (l2 : Int)) = false := by simp; omega
    have hc5 := (fin 1).1
    rw [if_neg hlt]
    gi_wp2
    refine ⟨.int .i64 1, ?_, rfl, (fin 1).2⟩
    simp [results, Tryd.f41, go_sem, hc5]

theorem cmpD_eq : ∀ {a b : List Int}, a.length = b.length → (∀ j, j < a.length → (a[j]?).getD 0 = (b[j]?).getD 0) → cmpD a b = 0
  | [], [], _, _ => rfl
  | [], _ :: _, h, _ => by simp at h
  | _ :: _, [], h, _ => by simp at h
  | x :: a, y :: b, h, he => by
    have h0 := he 0 (by simp)
    simp only [List.getElem?_cons_zero, Option.getD_some] at h0
    have := cmpD_eq (a := a) (b := b) (by simpa using h) (fun j hj => by have := he (j + 1) (by simp; omega); simpa using this)
    simp only [cmpD]
    rw [if_pos this, h0, if_neg (by omega), if_neg (by omega)]
theorem cmpD_at : ∀ {a b : List Int} {p : Nat}, a.length = b.length → p < a.length → (∀ j, p < j → j < a.length → (a[j]?).getD 0 = (b[j]?).getD 0) → (a[p]?).getD 0 ≠ (b[p]?).getD 0 →
    cmpD a b = if (a[p]?).getD 0 < (b[p]?).getD 0 then -1 else 1
  | [], _, _, _, hp, _, _ => by simp at hp
  | _ :: _, [], _, h, _, _, _ => by simp at h
  | x :: a, y :: b, 0, h, hp, he, hn => by
    have := cmpD_eq (a := a) (b := b) (by simpa using h) (fun j hj => by have := he (j + 1) (by omega) (by simp; omega); simpa using this)
    simp only [List.getElem?_cons_zero, Option.getD_some] at hn ⊢
    simp only [cmpD]
    rw [if_pos this]
    by_cases hlt : x < y
    · rw [if_pos hlt, if_pos hlt]
    · rw [if_neg hlt, if_neg hlt, if_pos (by omega)]
  | x :: a, y :: b, p + 1, h, hp, he, hn => by
    simp only [List.getElem?_cons_succ] at hn ⊢
    have := cmpD_at (a := a) (b := b) (p := p) (by simpa using h) (by simpa using hp) (fun j hj hl => by have := he (j + 1) (by omega) (by simp; omega); simpa using this) hn
    simp only [cmpD]
    rw [this, if_neg (by split <;> decide)]

set_option maxRecDepth 100000 in
set_option maxHeartbeats 4000000 in
theorem Compare_eq_in (F : Fence) (n : Nat) (h41 : F.fn 41) (h67 : F.fn 67) (h80 : F.fn 80) (hro : F.round = none) (hn : 3 ≤ n) (A1 A2 : Option Addr) (c1 c2 N : Nat) (a b : List Int) (hla : Apart (a.length = N)) (hlb : Apart (b.length = N)) (hreach : a.length * 4 ≤ 140737488351232) (w : World)
    (hI1 : Digs w.heap.size w (.slice A1 N c1) a) (hI2 : Digs w.heap.size w (.slice A2 N c2) b) :
    CallsIn F n Tryd.prog 41 #[.slice A1 N c1, .slice A2 N c2] w fun e W' => e = .returned (.int .i64 (cmpD a b)) ∧ Below w.heap.size w W' := by
  have h1 : 1 ≤ n := by omega
  have hne' : ((N : Int) == (N : Int)) = true := by simp
  refine callsIn_of_wp_marks Tryd.func41 rfl h41 ?_ hro
  simp only [Tryd.ntmps41, List.size_toArray, List.length_cons, List.length_nil, Nat.reduceAdd, Nat.reduceSub, Array.replicate_succ, Array.replicate_zero, List.push_toArray, List.append_toArray, List.nil_append, List.cons_append]
  gi_wp2_with (gi_at_call 67; refine (backward_in F (n - 1) h67 hro _ _ _ _).mono ?_; rintro e w' ⟨rfl, rfl⟩)
  have bB := Boxed.new w 23 (.slice A2 N c2)
  have bR := Boxed.new (w.alloc (.cells #[.slice A2 N c2] 23)) 3 (.int .i64 0)
  have bN := Boxed.new ((w.alloc (.cells #[.slice A2 N c2] 23)).alloc (.cells #[.int .i64 0] 3)) 23 (.slice A1 N c1)
  rw [World.size_alloc] at bR
  rw [World.size_alloc, World.size_alloc] at bN
  have hB0 : Below w.heap.size w (((w.alloc (.cells #[.slice A2 N c2] 23)).alloc (.cells #[.int .i64 0] 3)).alloc (.cells #[.slice A1 N c1] 23)) := (((Below.refl _ w).alloc (Nat.le_refl _) _).alloc (by simp) _).alloc (by simp; omega) _
  refine wpIn_rangeFunc_ownG hro h1 (gf := 80) (lb := #[.pointer (some ⟨w.heap.size + 1 + 1, 0, none⟩)]) rfl h80 (enters_of Tryd.func80 (by kernel_rfl) rfl)
    (back_stops (fun k => k = w.heap.size + 1) F (n - 1) h80 hro (by omega) (w.heap.size + 1 + 1) w.heap.size (w.heap.size + 1 + 1 + 1) _ a hreach _ (by omega) (by omega) (by simp) (by omega) (fun q hq e => by omega) bN.cell (hI1.below hB0)) KX.trans (KX.b (by simp)) (Below.refl _ _) (fun _ => rfl)
    (fun pre W => ((∀ q ∈ pre, (a[q.1]?).getD 0 = (b[q.1]?).getD 0) ∧ W.cell? ⟨w.heap.size + 1, 0, none⟩ = some (.int .i64 0) ∧ W.frozen? ⟨w.heap.size + 1, 0, none⟩ = false ∧ W.cell? ⟨w.heap.size, 0, none⟩ = some (.slice A2 N c2)) ∧ Below w.heap.size w W)
    (fun c pre W => (c = .ret ∧ ∃ ini last, pre = ini ++ [last] ∧ (∀ q ∈ ini, (a[q.1]?).getD 0 = (b[q.1]?).getD 0) ∧ (a[last.1]?).getD 0 ≠ (b[last.1]?).getD 0 ∧ W.cell? ⟨w.heap.size + 1, 0, none⟩ = some (.int .i64 (if (a[last.1]?).getD 0 < (b[last.1]?).getD 0 then -1 else 1))) ∧ Below w.heap.size w W)
    (OwnFrom.and (Own.from (fun s A B row hs hg hr => ⟨hs.1, cell_kept hs.2.1 hg hr, (frozen_kept hs.2.1 hg hr).trans hs.2.2.1, cell_kept hs.2.2.2 hg hr⟩) _) (ownFrom_below (Nat.le_refl _) (by simp; omega)))
    (fun c => OwnFrom.and (Own.from (fun s A B row hs hg hr => by obtain ⟨hc, ini, last, e1, e2, e3, e4⟩ := hs; exact ⟨hc, ini, last, e1, e2, e3, cell_kept e4 hg hr⟩) _) (ownFrom_below (Nat.le_refl _) (by simp; omega)))
    ⟨⟨by simp, (bR.alloc _).cell, (bR.alloc _).frozen, ((bB.alloc _).alloc _).cell⟩, hB0⟩
    (fun x => { tmps := #[.slice A1 N c1, .slice A2 N c2, undef, .pointer (some ⟨w.heap.size, 0, none⟩), .pointer (some ⟨w.heap.size + 1, 0, none⟩), .int .i64 (x.1 : Int), .int .u32 ((a[x.1]?).getD 0), .slice A1 N c1, .int .i64 N, .slice A2 N c2, .int .i64 N, .bool false, undef, undef, undef, undef, undef, .slice A1 N c1,
      .func (.func 80) #[] #[.pointer (some ⟨w.heap.size + 1 + 1, 0, none⟩)], .int .i64 (x.1 : Int), .int .u32 ((a[x.1]?).getD 0), undef, undef, undef, undef, undef, undef, undef, undef, undef, undef, undef, undef, undef, undef], defers := [] }) ?assign ?body ?done ?stop
  case assign =>
    intro l x W K hK
    dsimp only [enc2]
    gi_wp2
    exact hK
  case body =>
    rintro l pre x W ⟨⟨hp, hcr, hfr, hbx⟩, hB⟩ _
    have hxa : x.1 < a.length := x.2
    rcases hI2.below hB with ⟨A, cap, e, hb0⟩ | ⟨b2, off2, cap2, e, hz, hb2, hcs⟩
    · have := hla.out; cases e; omega
    have hxb : x.1 < b.length := by have := hla.out; have := hlb.out; omega
    have hcb := hcs x.1 hxb
    have hN := hlb.out
    obtain ⟨q, hq⟩ : ∃ q : Nat, x.1 = q := ⟨_, rfl⟩
    obtain ⟨u, hu⟩ : ∃ u : Int, (a[x.1]?).getD 0 = u := ⟨_, rfl⟩
    obtain ⟨v, hv⟩ : ∃ v : Int, (b[x.1]?).getD 0 = v := ⟨_, rfl⟩
    have hpA : Apart (∀ q ∈ pre, (a[q.1]?).getD 0 = (b[q.1]?).getD 0) := ⟨hp⟩
    have huA : Apart ((a[x.1]?).getD 0 = u) := ⟨hu⟩
    have hvA : Apart ((b[x.1]?).getD 0 = v) := ⟨hv⟩
    rw [hv, hq] at hcb
    rw [hq] at hxb
    rw [hu]
    clear hcs hp hI1 hI2 hla hlb hu hv
    cases e
    clear hN
    gi_wp2
    · have hx : u < v := by assumption
      exact ⟨(KeepsOthers.setCell _ _ _).from _, ⟨rfl, pre, x, rfl, hpA.out, by rw [huA.out, hvA.out]; omega, by rw [huA.out, hvA.out, if_pos hx]; exact World.cell?_setCell_same' _ _ _ (by rw [hcr]; rfl)⟩, hB.setCell (p := ⟨w.heap.size + 1, 0, none⟩) (Nat.le_succ _) _⟩
    · have hx : v < u := by assumption
      exact ⟨(KeepsOthers.setCell _ _ _).from _, ⟨rfl, pre, x, rfl, hpA.out, by rw [huA.out, hvA.out]; omega, by rw [huA.out, hvA.out, if_neg (by omega)]; exact World.cell?_setCell_same' _ _ _ (by rw [hcr]; rfl)⟩, hB.setCell (p := ⟨w.heap.size + 1, 0, none⟩) (Nat.le_succ _) _⟩
    · have hx1 : v ≤ u := by assumption
      have hx2 : u ≤ v := by assumption
      exact ⟨KeepsFrom.refl _ _, KX.refl _ _ _, ⟨fun p hp' => (List.mem_append.1 hp').elim (hpA.out p) (fun e => by simp at e; subst e; rw [huA.out, hvA.out]; omega), hcr, hfr, hbx⟩, hB⟩
  case done =>
    rintro D ys W hD hys ⟨⟨hp, hcr, hfr, hbx⟩, hB⟩ hK
    have hpA : Apart (∀ q ∈ ys, (a[q.1]?).getD 0 = (b[q.1]?).getD 0) := ⟨hp⟩
    have hyA : Apart (ys.map (·.1) = upto (fun k => a.length - 1 - k) a.length) := ⟨hys⟩
    clear hp hys
    gi_wp2
    have hK' := (KeepsOthers.setCell W ⟨w.heap.size + 1, 0, none⟩ (.int .i64 0)).same D _ hK rfl
    refine ⟨by simp, .inl ⟨_, _, rfl, run_takeDeferred hK', ?_⟩⟩
    have hc5 := cell_kept (World.cell?_setCell_same' W ⟨w.heap.size + 1, 0, none⟩ (.int .i64 0) (by rw [hcr]; rfl)) (grownBy_putObj' _ D (.deferred none)) (fun r e => by cases e; exact ⟨_, hK', rfl⟩)
    have hz : cmpD a b = 0 := by
      refine cmpD_eq (by rw [hla.out, hlb.out]) (fun j hj => ?_)
      have hm : j ∈ ys.map (·.1) := by
        rw [hyA.out]
        simp only [upto, List.mem_map, List.mem_range]
        exact ⟨a.length - 1 - j, by omega, by omega⟩
      obtain ⟨q, hq1, rfl⟩ := List.mem_map.1 hm
      exact hpA.out q hq1
    refine ⟨.int .i64 0, ?_, by rw [hz], (hB.setCell (p := ⟨w.heap.size + 1, 0, none⟩) (Nat.le_succ _) _).trans (belowK_b (w := w) (Nat.le_refl _) _ D _ _ (by simp at hD; omega) hK' rfl rfl)⟩
    simp [results, Tryd.f41, go_sem, hc5]
  case stop =>
    rintro D c pre W hD ⟨k, hk, hpre⟩ ⟨⟨rfl, ini, last, e1, e2, e3, hcr⟩, hB⟩ hK
    obtain ⟨r, hr⟩ : ∃ r : Int, r = if (a[last.1]?).getD 0 < (b[last.1]?).getD 0 then -1 else 1 := ⟨_, rfl⟩
    have hrA : Apart (r = if (a[last.1]?).getD 0 < (b[last.1]?).getD 0 then -1 else 1) := ⟨hr⟩
    have e2A : Apart (∀ q ∈ ini, (a[q.1]?).getD 0 = (b[q.1]?).getD 0) := ⟨e2⟩
    have e3A : Apart ((a[last.1]?).getD 0 ≠ (b[last.1]?).getD 0) := ⟨e3⟩
    have hpA : Apart (pre.map (·.1) = upto (fun k => a.length - 1 - k) k) := ⟨hpre⟩
    rw [← hr] at hcr
    clear hr e2 e3 hpre
    gi_wp2
    refine ⟨by simp, .inl ⟨_, _, rfl, run_takeDeferred hK, ?_⟩⟩
    have hc5 := cell_kept hcr (grownBy_putObj' _ D (.deferred none)) (fun r e => by cases e; exact ⟨_, hK, rfl⟩)
    have hz : cmpD a b = r := by
      rw [hrA.out]
      refine cmpD_at (by rw [hla.out, hlb.out]) last.2 (fun j hj hjl => ?_) e3A.out
      have h0 := hpA.out
      rw [e1] at h0
      obtain ⟨k', rfl⟩ : ∃ k', k = k' + 1 := by
        cases k with
        | zero => simp [upto] at h0
        | succ k' => exact ⟨k', rfl⟩
      rw [upto_succ, List.map_append] at h0
      obtain ⟨h01, h02⟩ := List.append_inj' h0 rfl
      have hlast : last.1 = a.length - 1 - k' := by simpa using h02
      have hm : j ∈ ini.map (·.1) := by
        rw [h01]
        simp only [upto, List.mem_map, List.mem_range]
        exact ⟨a.length - 1 - j, by omega, by omega⟩
      obtain ⟨q, hq1, rfl⟩ := List.mem_map.1 hm
      exact e2A.out q hq1
    refine ⟨.int .i64 r, ?_, by rw [hz], hB.trans (belowK_b (w := w) (Nat.le_refl _) W D _ _ (by simp at hD; omega) hK rfl rfl)⟩
    simp [results, Tryd.f41, go_sem, hc5]

theorem fn_limbs_Compare : FnOK Tryd.prog G 41 ⟨(.pair (.sl (.int .u32)) (.pair (.sl (.int .u32)) .unit)), (.pair (.int .i64) .unit), [], S.limbs_Compare, none⟩ := by
  refine ⟨⟨_, Tryd.func41, by kernel_rfl, by kernel_rfl⟩, ?_⟩
  show PlainOK _ _ _ _ _ _ _
  intro w S hS hgl x vs y hA hy
  obtain ⟨a0, b0, _⟩ := x
  obtain ⟨a, rfl⟩ : ∃ x : List Int, x = a0 := ⟨a0, rfl⟩
  obtain ⟨b, rfl⟩ : ∃ x : List Int, x = b0 := ⟨b0, rfl⟩
  obtain ⟨cs1, vs1, rfl, ha, cs2, vs2, rfl, hb, h2⟩ := hA
  have h2 : vs2 = [] := h2
  subst h2
  have hy : (if fine a ∧ fine b then some (cmpL a b, ()) else none) = some y := hy
  split at hy <;> cases hy
  rename_i hf
  unfold fine at hf
  have ex1 : ∃ v, cs1 = [v] := by obtain ⟨A, c, he, _⟩ := ha; exact ⟨_, he⟩
  have ex2 : ∃ v, cs2 = [v] := by obtain ⟨A, c, he, _⟩ := hb; exact ⟨_, he⟩
  obtain ⟨v1, rfl⟩ := ex1
  obtain ⟨v2, rfl⟩ := ex2
  obtain ⟨A1, c1, rfl, hD1⟩ := digs_of hS ha
  obtain ⟨A2, c2, rfl, hD2⟩ := digs_of hS hb
  have key : Calls Tryd.prog 41 #[.slice A1 a.length c1, .slice A2 b.length c2] w fun e W' => e = .returned (.int .i64 (cmpL a b)) ∧ Below w.heap.size w W' := by
    rw [← callsIn_wide (n := 3)]
    by_cases hne : a.length = b.length
    · have e : cmpL a b = cmpD a b := by unfold cmpL; rw [if_neg (by omega), if_neg (by omega)]
      rw [e, ← hne]
      exact Compare_eq_in Fence.wide 3 trivial trivial trivial rfl (by decide) A1 A2 c1 c2 a.length a b ⟨rfl⟩ ⟨hne.symm⟩ (by omega) w hD1 (by rw [hne]; exact hD2)
    · have e : cmpL a b = if a.length < b.length then -1 else 1 := by
        unfold cmpL
        by_cases h : a.length < b.length
        · rw [if_pos h, if_pos h]
        · rw [if_neg h, if_neg h, if_pos (by omega)]
      rw [e]
      exact Compare_ne_in Fence.wide 3 trivial rfl A1 A2 a.length b.length c1 c2 hne w
  refine key.mono ?_
  rintro e w' ⟨rfl, hbel⟩
  exact ⟨hbel, [.int .i64 (cmpL a b)], [], rfl, ⟨rfl, [.int .i64 (cmpL a b)], [], rfl, rfl, rfl, rfl⟩, List.nodup_nil⟩
end Go.L

/-! LHandD5 -/
namespace Go.L
open Go.PM Go.Proofs Go.RowKit
set_option linter.unusedVariables false
set_option linter.unusedSimpArgs false
attribute [local go_sem] Oper.semAt_some

/-- One round: what is left and the next digit, divided. -/
def stepS (a : List Int) (d : Int) (s : List Int × Int) (q : Nat) : List Int × Int := (s.1.set q ((s.2 * 4294967296 + (a[q]?).getD 0) / d), (s.2 * 4294967296 + (a[q]?).getD 0) % d)
def foldS (a : List Int) (d : Int) (n : Nat) (pre : List Nat) : List Int × Int := pre.foldl (stepS a d) (List.replicate n 0, 0)
theorem foldS_snoc (a : List Int) (d : Int) (n : Nat) (pre : List Nat) (q : Nat) : foldS a d n (pre ++ [q]) = stepS a d (foldS a d n pre) q := by simp [foldS]

theorem foldS_len (a : List Int) (d : Int) (n : Nat) (pre : List Nat) : (foldS a d n pre).1.length = n := by
  have : ∀ (pre : List Nat) (s : List Int × Int), s.1.length = n → (pre.foldl (stepS a d) s).1.length = n := by
    intro pre
    induction pre with
    | nil => intro s h; exact h
    | cons q pre ih => intro s h; exact ih _ (by simp [stepS, h])
  exact this pre _ (by simp)
theorem foldS_rem (a : List Int) {d : Int} (hd : 0 < d) (n : Nat) (pre : List Nat) : 0 ≤ (foldS a d n pre).2 ∧ (foldS a d n pre).2 < d := by
  have : ∀ (pre : List Nat) (s : List Int × Int), (0 ≤ s.2 ∧ s.2 < d) → 0 ≤ (pre.foldl (stepS a d) s).2 ∧ (pre.foldl (stepS a d) s).2 < d := by
    intro pre
    induction pre with
    | nil => intro s h; exact h
    | cons q pre ih => intro s h; exact ih _ ⟨Int.emod_nonneg _ (by omega), Int.emod_lt_of_pos _ hd⟩
  exact this pre _ ⟨Int.le_refl _, hd⟩

/-- The row of the answer, and what is left, as they lie. -/
def OutAt (h : Nat) (W : World) (l : List Int) : Prop := W.heap[h + 1]? = some (.cells (l.map (Value.int .u32)).toArray 72 (0, 0))

theorem made_zeros (n : Nat) : madeCells #[Value.int .u32 0] n = ((List.replicate n (0 : Int)).map (Value.int .u32)).toArray := by
  apply Array.toList_inj.1
  simp only [madeCells, Array.toList_map, Array.toList_range]
  rw [List.map_replicate]
  apply List.ext_getElem
  · simp
  · intro i h1 h2
    simp [Nat.mod_one]
theorem make_run (n : Nat) (hn : (4 : Int) * (n : Int) ≤ 281474976710656) (w : World) : (Instr.makeSlice 23 (.int .i64 (n : Int)) (.int .i64 (n : Int))).run Tryd.prog w = .ok (.slice (some ⟨w.heap.size, 0, none⟩) n n) (w.alloc (.cells ((List.replicate n (0 : Int)).map (Value.int .u32)).toArray 72)) := by
  obtain ⟨i0, hi, hz0, hz1, hz2⟩ : ∃ i, Tryd.prog.info? 72 = some i ∧ i.zero = some (.int .u32 0) ∧ i.size = 1 ∧ i.bytes = 4 := by
    have h : (Tryd.prog.info? 72).map (fun i => (i.zero, i.size, i.bytes)) = some (some (.int .u32 0), 1, 4) := by kernel_rfl
    cases hi : Tryd.prog.info? 72 with
    | none => rw [hi] at h; cases h
    | some i => rw [hi] at h; simp at h; exact ⟨i, rfl, h.1, h.2.1, h.2.2⟩
  have := run_make (P := Tryd.prog) w 23 72 i0 (.int .u32 0) Tryd.underlying23 hi hz0 .i64 .i64 n n (by omega) (Int.le_refl _) (by rw [hz2]; exact hn) (by omega)
  rw [this, hz1]
  simp only [Int.toNat_natCast, Nat.mul_one]
  rw [show (Value.int IntKind.u32 0).cells = #[Value.int .u32 0] from rfl, made_zeros]

theorem at_new (w : World) (o : Obj) : (w.alloc o).heap[w.heap.size]? = some o := by
  show (w.heap.push o)[w.heap.size]? = some o
  exact Array.getElem?_push_size
theorem at_old {w : World} {o : Obj} {k : Nat} {x : Obj} (h : w.heap[k]? = some x) : (w.alloc o).heap[k]? = some x := by
  have hk : k < w.heap.size := (Array.getElem?_eq_some_iff.1 h).1
  exact (((Below.refl w.heap.size w).alloc (Nat.le_refl _) o).block k hk).trans h

theorem or_short {r u : Int} (hr0 : 0 ≤ r) (hr1 : r < 4294967296) (hu0 : 0 ≤ u) (hu1 : u < 4294967296) : Go.bits BinOp.or IntKind.u64 (r * 4294967296) u = r * 4294967296 + u := by
  obtain ⟨R, rfl⟩ : ∃ R : Nat, r = R := ⟨r.toNat, by omega⟩
  obtain ⟨U, rfl⟩ : ∃ U : Nat, u = U := ⟨u.toNat, by omega⟩
  have h := or_u64' (h := U) (q := R) (s := 32) (by omega) (by omega)
  have e1 : (R : Int) * 4294967296 = ((2 ^ 32 * R : Nat) : Int) := by omega
  rw [e1]
  refine Eq.trans ?_ (h.trans (by omega))
  rfl

theorem heap_set_row {W : World} {b q : Nat} {arr : Array Value} {T : TypeId} {fr : Nat × Nat} (v : Value) (h : W.heap[b]? = some (.cells arr T fr)) : (W.setCell ⟨b, q, none⟩ v).heap[b]? = some (.cells (arr.setIfInBounds q v) T fr) := by
  obtain ⟨hlt, hk⟩ := Array.getElem?_eq_some_iff.1 h
  show (W.heap.modify b _)[b]? = _
  rw [Array.getElem?_eq_getElem (by rw [Array.size_modify]; exact hlt), Array.getElem_modify_self, hk]
  rfl
theorem OutAt.set {h : Nat} {W : World} {l : List Int} (ho : OutAt h W l) (q : Nat) (v : Int) : OutAt h (W.setCell ⟨h + 1, q, none⟩ (.int .u32 v)) (l.set q v) := by
  unfold OutAt at ho ⊢
  rw [heap_set_row _ ho]
  simp [List.map_set]
theorem OutAt.far {h : Nat} {W : World} {l : List Int} (ho : OutAt h W l) (p : Addr) (v : Value) (hp : p.block ≠ h + 1) : OutAt h (W.setCell p v) l := by
  unfold OutAt at ho ⊢
  rw [Below.heap_setCell W p v (h + 1) (fun e => hp e.symm)]
  exact ho
theorem keeps_drew (B : Nat) (W : World) : KeepsFrom B W W.drew := ⟨Nat.le_refl _, fun _ _ _ h _ => h⟩
theorem cell_far {W : World} {p a : Addr} {v u : Value} (h : W.cell? a = some u) (hp : p.block ≠ a.block) : (W.setCell p v).cell? a = some u := (World.cell?_setCell_other W p a v (fun e => hp (by rw [e]))).trans h

set_option maxRecDepth 100000 in
set_option maxHeartbeats 4000000 in
theorem short_in (F : Fence) (n : Nat) (h71 : F.fn 71) (h67 : F.fn 67) (h80 : F.fn 80) (h68 : F.fn 68) (hro : F.round = none) (hn : 3 ≤ n) (A1 : Option Addr) (c1 N : Nat) (a : List Int) (d : Int) (hla : Apart (a.length = N)) (oa : Apart (ok W a)) (hd0 : 0 < d) (hd1 : d < 4294967296) (hreach : a.length * 4 ≤ 140737488351232) (w : World)
    (hI1 : Digs w.heap.size w (.slice A1 N c1) a)
    (S : Nat → Prop) (hS : ∀ b, S b → b < w.heap.size) (htrim : ∀ (W : World) (l : List Int) (b : Nat), Below w.heap.size w W → l.length = N → W.heap[b]? = some (.cells (l.map (Value.int .u32)).toArray 72 (0, 0)) → CallsIn F (n - 1) Tryd.prog 68 #[.slice (some ⟨b, 0, none⟩) N N] W fun e W' => ∃ v', e = .returned v' ∧ Below W.heap.size W W' ∧ RepD Tryd.prog (.sl (.int .u32)) W' (fun b' => S b' ∨ b' = b ∨ (W.heap.size ≤ b' ∧ b' < W'.heap.size)) (trimL l) [v']) :
    CallsIn F n Tryd.prog 71 #[.slice A1 N c1, .int .u32 d] w fun e W' => ∃ v', e = .returned (.tuple #[v', .int .u32 (foldS a d N (upto (fun k => a.length - 1 - k) a.length)).2]) ∧ Below w.heap.size w W' ∧ RepD Tryd.prog (.sl (.int .u32)) W' (fun b => S b ∨ (w.heap.size ≤ b ∧ b < W'.heap.size)) (trimL (foldS a d N (upto (fun k => a.length - 1 - k) a.length)).1) [v'] := by
  have h1 : 1 ≤ n := by omega
  have hN4 : (4 : Int) * (N : Int) ≤ 281474976710656 := by have := hla.out; omega
  have hmk := make_run N hN4
  refine callsIn_of_wp_marks Tryd.func71 rfl h71 ?_ hro
  simp only [Tryd.ntmps71, List.size_toArray, List.length_cons, List.length_nil, Nat.reduceAdd, Nat.reduceSub, Array.replicate_succ, Array.replicate_zero, List.push_toArray, List.append_toArray, List.nil_append, List.cons_append]
  gi_wp2_with (gi_at_call 67; refine (backward_in F (n - 1) h67 hro _ _ _ _).mono ?_; rintro e w' ⟨rfl, rfl⟩)
  have bD := Boxed.new w 72 (.int .u32 d)
  have bR := Boxed.new (((w.alloc (.cells #[.int .u32 d] 72)).alloc (.cells (Array.replicate N (.int .u32 0)) 72)).alloc (.cells #[.slice (some ⟨w.heap.size + 1, 0, none⟩) N N] 23)) 62 (.int .u64 0)
  have bO := Boxed.new ((w.alloc (.cells #[.int .u32 d] 72)).alloc (.cells (Array.replicate N (.int .u32 0)) 72)) 23 (.slice (some ⟨w.heap.size + 1, 0, none⟩) N N)
  have bN := Boxed.new ((((w.alloc (.cells #[.int .u32 d] 72)).alloc (.cells (Array.replicate N (.int .u32 0)) 72)).alloc (.cells #[.slice (some ⟨w.heap.size + 1, 0, none⟩) N N] 23)).alloc (.cells #[.int .u64 0] 62)) 23 (.slice A1 N c1)
  simp only [World.size_alloc] at bR bO bN
  have hB0 : Below w.heap.size w (((((w.alloc (.cells #[.int .u32 d] 72)).alloc (.cells (Array.replicate N (.int .u32 0)) 72)).alloc (.cells #[.slice (some ⟨w.heap.size + 1, 0, none⟩) N N] 23)).alloc (.cells #[.int .u64 0] 62)).alloc (.cells #[.slice A1 N c1] 23)) :=
    (((((Below.refl _ w).alloc (Nat.le_refl _) _).alloc (by simp) _).alloc (by simp; omega) _).alloc (by simp; omega) _).alloc (by simp; omega) _
  have hout0 : (((((w.alloc (.cells #[.int .u32 d] 72)).alloc (.cells (Array.replicate N (.int .u32 0)) 72)).alloc (.cells #[.slice (some ⟨w.heap.size + 1, 0, none⟩) N N] 23)).alloc (.cells #[.int .u64 0] 62)).alloc (.cells #[.slice A1 N c1] 23)).heap[w.heap.size + 1]? = some (.cells (Array.replicate N (.int .u32 0)) 72 (0, 0)) := by
    have h0 := at_new (w.alloc (.cells #[.int .u32 d] 72)) (.cells (Array.replicate N (.int .u32 0)) 72)
    rw [World.size_alloc] at h0
    exact at_old (at_old (at_old h0))
  refine wpIn_rangeFunc_ownG hro h1 (gf := 80) (lb := #[.pointer (some ⟨w.heap.size + 1 + 1 + 1 + 1, 0, none⟩)]) rfl h80 (enters_of Tryd.func80 (by kernel_rfl) rfl)
    (back_stops (fun k => k = w.heap.size + 1 ∨ k = w.heap.size + 1 + 1 + 1) F (n - 1) h80 hro (by omega) (w.heap.size + 1 + 1 + 1 + 1) w.heap.size (w.heap.size + 1 + 1 + 1 + 1 + 1) _ a hreach _ (by omega) (by omega) (by simp) (by omega) (fun q hq e => by omega) bN.cell (hI1.below hB0)) KX.trans (KX.b (by simp)) (Below.refl _ _) (fun _ => rfl)
    (fun pre W => (OutAt w.heap.size W (foldS a d N (pre.map (·.1))).1 ∧ W.cell? ⟨w.heap.size + 1 + 1 + 1, 0, none⟩ = some (.int .u64 (foldS a d N (pre.map (·.1))).2) ∧ W.frozen? ⟨w.heap.size + 1 + 1 + 1, 0, none⟩ = false ∧ W.cell? ⟨w.heap.size + 1 + 1, 0, none⟩ = some (.slice (some ⟨w.heap.size + 1, 0, none⟩) N N) ∧ W.cell? ⟨w.heap.size, 0, none⟩ = some (.int .u32 d)) ∧ Below w.heap.size w W)
    (fun c pre W => False)
    (OwnFrom.and (Own.from (fun s A B row hs hg hr => ⟨(grownBy_keeps_cells hg hr hs.1 rfl).trans hs.1, cell_kept hs.2.1 hg hr, (frozen_kept hs.2.1 hg hr).trans hs.2.2.1, cell_kept hs.2.2.2.1 hg hr, cell_kept hs.2.2.2.2 hg hr⟩) _) (ownFrom_below (Nat.le_refl _) (by simp; omega)))
    (fun c => fun _ _ _ _ hs _ _ => hs)
    ⟨⟨by unfold OutAt; rw [hout0]; simp [foldS], (bR.alloc _).cell, (bR.alloc _).frozen, ((bO.alloc _).alloc _).cell, ((((bD.alloc _).alloc _).alloc _).alloc _).cell⟩, hB0⟩
    (fun x => { tmps := #[.slice A1 N c1, .int .u32 d, undef, .pointer (some ⟨w.heap.size, 0, none⟩), .slice none 0 0, .int .u32 0, .pointer (some ⟨w.heap.size + 1 + 1, 0, none⟩), .pointer (some ⟨w.heap.size + 1 + 1 + 1, 0, none⟩), .int .i64 (x.1 : Int), .int .u32 ((a[x.1]?).getD 0), .slice A1 N c1, .int .i64 N, .slice (some ⟨w.heap.size + 1, 0, none⟩) N N, .slice A1 N c1,
      .func (.func 80) #[] #[.pointer (some ⟨w.heap.size + 1 + 1 + 1 + 1, 0, none⟩)], .int .i64 (x.1 : Int), .int .u32 ((a[x.1]?).getD 0), undef, undef, undef, undef, undef, undef, undef, undef, undef, undef, undef, undef, undef, undef, undef, undef, undef, undef, undef, undef, undef], defers := [] }) ?assign ?body ?done ?stop
  case assign =>
    intro l x W K hK
    dsimp only [enc2]
    gi_wp2
    exact hK
  case body =>
    rintro l pre x W ⟨⟨ho, hcr, hfr, hbo, hbd⟩, hB⟩ _
    have hlen := foldS_len a d N (pre.map (·.1))
    have hrem := foldS_rem a hd0 N (pre.map (·.1))
    obtain ⟨s1, r, hs⟩ : ∃ s1 r, foldS a d N (pre.map (·.1)) = (s1, r) := ⟨_, _, rfl⟩
    rw [hs] at ho hcr hlen hrem
    simp only at ho hcr hlen hrem
    have hsA : Apart (foldS a d N (pre.map (·.1)) = (s1, r)) := ⟨hs⟩
    have hxa : x.1 < N := by have := x.2; have := hla.out; omega
    have hu := getD_ok (B := 4294967296) (by decide) oa.out x.1
    simp only [List.getD_eq_getElem?_getD] at hu
    obtain ⟨q, hq⟩ : ∃ q : Nat, x.1 = q := ⟨_, rfl⟩
    obtain ⟨u, huu⟩ : ∃ u : Int, (a[x.1]?).getD 0 = u := ⟨_, rfl⟩
    have huA : Apart ((a[x.1]?).getD 0 = u) := ⟨huu⟩
    have hqA : Apart (x.1 = q) := ⟨hq⟩
    rw [huu] at hu ⊢
    rw [hq] at hxa ⊢

    have hoA : Apart (OutAt w.heap.size W s1) := ⟨ho⟩
    have hoc : W.cell? ⟨w.heap.size + 1, q, none⟩ = some (.int .u32 (s1.getD q 0)) := by
      unfold OutAt at ho
      simp [World.cell?, ho, List.getElem?_map, List.getElem?_eq_getElem (show q < s1.length by omega), List.getD]
    have hof : W.frozen? ⟨w.heap.size + 1, q, none⟩ = false := by
      unfold OutAt at ho
      simp [World.frozen?, ho]
    clear ho hs huu hq
    obtain ⟨t, ht⟩ : ∃ t : Int, Go.bits BinOp.or IntKind.u64 (r * 4294967296) u = t := ⟨_, rfl⟩
    have htA : Apart (t = r * 4294967296 + u) := ⟨ht.symm.trans (or_short hrem.1 (by omega) hu.1 hu.2)⟩
    have ht0 : 0 ≤ t := by have := htA.out; omega
    have ht1 : t < 18446744073709551616 := by have := htA.out; omega
    have hdn : ¬ d = 0 := by omega
    have hdb : (d == 0) = false := by simp; omega
    obtain ⟨v, hv⟩ : ∃ v : Int, t / d = v := ⟨_, rfl⟩
    have hvA : Apart (t / d = v) := ⟨hv⟩
    have hv0 : 0 ≤ v := by rw [← hv]; exact Int.ediv_nonneg ht0 (by omega)
    have hv1 : v < 4294967296 := by
      rw [← hv]
      refine Int.ediv_lt_of_lt_mul hd0 ?_
      have := htA.out
      have : 4294967296 * (r + 1) ≤ 4294967296 * d := by omega
      omega
    have hw5 : IntKind.u64.wrap (t.tdiv d) = v := by rw [Int.tdiv_eq_ediv_of_nonneg ht0, hv]; exact wu64 hv0 (by omega)
    have hw4 : IntKind.u64.wrap d = d := wu64 (by omega) (by omega)
    have hw6 : IntKind.u32.wrap v = v := by rw [wu32]; omega
    clear hv
    gi_wp2
    refine wpIn_region_any (by kernel_rfl) ?_
    change wpAnyIn _ _ _ _ _ _ _ _ _ (World.drew _)
    generalize hZ : wpAnyIn _ _ _ _ _ _ = Z
    have s_012345678 : Z 0 #[true, true, true, true, true, true, true, true, true] { tmps := #[.slice A1 N c1, .int .u32 d, undef, .pointer (some ⟨w.heap.size, 0, none⟩), .slice none 0 0, .int .u32 0, .pointer (some ⟨w.heap.size + 1 + 1, 0, none⟩), .pointer (some ⟨w.heap.size + 1 + 1 + 1, 0, none⟩), .int .i64 (q : Int), .int .u32 u, .slice A1 N c1, .int .i64 (N : Int), .slice (some ⟨w.heap.size + 1, 0, none⟩) N N, .slice A1 N c1, .func (.func 80) #[] #[.pointer (some ⟨w.heap.size + 1 + 1 + 1 + 1, 0, none⟩)], .int .i64 (q : Int), .int .u32 u, .int .u64 r, .int .u64 (r * 4294967296), .int .u32 u, .int .u64 u, .int .u64 t, .slice (some ⟨w.heap.size + 1, 0, none⟩) N N, .int .i64 (q : Int), .int .u64 t, .int .u32 d, .int .u64 d, .int .u64 v, .int .u32 v, .pointer (some ⟨w.heap.size + 1, q, none⟩), undef, undef, undef, undef, undef, undef, undef, undef], defers := [] } (World.setCell (World.drew (W.setCell ⟨w.heap.size + 1 + 1 + 1, 0, none⟩ (.int .u64 t))) ⟨w.heap.size + 1, q, none⟩ (.int .u32 v)) := by
      rw [← hZ]
      refine wpAnyIn_done (by kernel_rfl) ?_ 0
      gi_wp2
      have hfold : foldS a d N ((pre ++ [x]).map (·.1)) = (s1.set q v, t % d) := by
        rw [List.map_append, List.map_cons, List.map_nil, foldS_snoc, hsA.out]
        simp only [stepS]
        rw [huA.out, hqA.out, ← htA.out, hvA.out]
      refine ⟨?_, ?_, ⟨?_, ?_, ?_, ?_, ?_⟩, ?_⟩
      · exact ((((KeepsOthers.setCell _ _ _).from _).trans ((KeepsOthers.setCell _ _ _).from _)).trans ((KeepsOthers.setCell _ _ _).from _)).trans (keeps_drew _ _)
      · exact (((KX.setCell _ _ _ (.inr rfl)).trans (KX.setCell _ _ _ (.inl rfl))).trans (KX.setCell _ _ _ (.inr rfl)))
      · rw [hfold]
        exact ((hoA.out.far ⟨w.heap.size + 1 + 1 + 1, 0, none⟩ (.int .u64 t) (by simp; omega)).set q v).far ⟨w.heap.size + 1 + 1 + 1, 0, none⟩ (.int .u64 (t % d)) (by simp; omega)
      · rw [hfold]
        exact World.cell?_setCell_same' _ _ _ (by rw [World.cell?_setCell_other _ _ _ _ (by simp), World.cell?_setCell_same' _ _ _ (by rw [hcr]; rfl)]; rfl)
      · show World.frozen? (World.setCell _ _ _) _ = false
        rw [World.frozen?_setCell, World.frozen?_setCell, World.frozen?_setCell]
        exact hfr
      · exact cell_far (cell_far (cell_far hbo (by show _ ≠ _; simp only [ne_eq]; omega)) (by show _ ≠ _; simp only [ne_eq]; omega)) (by show _ ≠ _; simp only [ne_eq]; omega)
      · exact cell_far (cell_far (cell_far hbd (by show _ ≠ _; simp only [ne_eq]; omega)) (by show _ ≠ _; simp only [ne_eq]; omega)) (by show _ ≠ _; simp only [ne_eq]; omega)
      · exact Below.drew <| ((hB.setCell (p := ⟨w.heap.size + 1 + 1 + 1, 0, none⟩) (by simp; omega) _).setCell (p := ⟨w.heap.size + 1, q, none⟩) (by simp) _).setCell (p := ⟨w.heap.size + 1 + 1 + 1, 0, none⟩) (by simp; omega) _
    have s_01234567 : Z 1 #[true, true, true, true, true, true, true, true, false] { tmps := #[.slice A1 N c1, .int .u32 d, undef, .pointer (some ⟨w.heap.size, 0, none⟩), .slice none 0 0, .int .u32 0, .pointer (some ⟨w.heap.size + 1 + 1, 0, none⟩), .pointer (some ⟨w.heap.size + 1 + 1 + 1, 0, none⟩), .int .i64 (q : Int), .int .u32 u, .slice A1 N c1, .int .i64 (N : Int), .slice (some ⟨w.heap.size + 1, 0, none⟩) N N, .slice A1 N c1, .func (.func 80) #[] #[.pointer (some ⟨w.heap.size + 1 + 1 + 1 + 1, 0, none⟩)], .int .i64 (q : Int), .int .u32 u, .int .u64 r, .int .u64 (r * 4294967296), .int .u32 u, .int .u64 u, .int .u64 t, .slice (some ⟨w.heap.size + 1, 0, none⟩) N N, .int .i64 (q : Int), .int .u64 t, .int .u32 d, .int .u64 d, .int .u64 v, .int .u32 v, .pointer (some ⟨w.heap.size + 1, q, none⟩), undef, undef, undef, undef, undef, undef, undef, undef], defers := [] } (World.drew (W.setCell ⟨w.heap.size + 1 + 1 + 1, 0, none⟩ (.int .u64 t))) := by
      rw [← hZ]
      refine wpAnyIn_ready (rs := [8]) (by kernel_rfl) (by simp) ?_
      refine AllReadyIn.cons rfl (fun K hK => ?_) ?_
      · go_simp
        exact hK _ _ (by rw [hZ]; exact s_012345678)
      exact AllReadyIn.nil
    have s_0123456 : Z 2 #[true, true, true, true, true, true, true, false, false] { tmps := #[.slice A1 N c1, .int .u32 d, undef, .pointer (some ⟨w.heap.size, 0, none⟩), .slice none 0 0, .int .u32 0, .pointer (some ⟨w.heap.size + 1 + 1, 0, none⟩), .pointer (some ⟨w.heap.size + 1 + 1 + 1, 0, none⟩), .int .i64 (q : Int), .int .u32 u, .slice A1 N c1, .int .i64 (N : Int), .slice (some ⟨w.heap.size + 1, 0, none⟩) N N, .slice A1 N c1, .func (.func 80) #[] #[.pointer (some ⟨w.heap.size + 1 + 1 + 1 + 1, 0, none⟩)], .int .i64 (q : Int), .int .u32 u, .int .u64 r, .int .u64 (r * 4294967296), .int .u32 u, .int .u64 u, .int .u64 t, .slice (some ⟨w.heap.size + 1, 0, none⟩) N N, .int .i64 (q : Int), .int .u64 t, .int .u32 d, .int .u64 d, .int .u64 v, .int .u32 v, undef, undef, undef, undef, undef, undef, undef, undef, undef], defers := [] } (World.drew (W.setCell ⟨w.heap.size + 1 + 1 + 1, 0, none⟩ (.int .u64 t))) := by
      rw [← hZ]
      refine wpAnyIn_ready (rs := [7]) (by kernel_rfl) (by simp) ?_
      refine AllReadyIn.cons rfl (fun K hK => ?_) ?_
      · go_simp
        exact hK _ _ (by rw [hZ]; exact s_01234567)
      exact AllReadyIn.nil
    have s_012345 : Z 3 #[true, true, true, true, true, true, false, false, false] { tmps := #[.slice A1 N c1, .int .u32 d, undef, .pointer (some ⟨w.heap.size, 0, none⟩), .slice none 0 0, .int .u32 0, .pointer (some ⟨w.heap.size + 1 + 1, 0, none⟩), .pointer (some ⟨w.heap.size + 1 + 1 + 1, 0, none⟩), .int .i64 (q : Int), .int .u32 u, .slice A1 N c1, .int .i64 (N : Int), .slice (some ⟨w.heap.size + 1, 0, none⟩) N N, .slice A1 N c1, .func (.func 80) #[] #[.pointer (some ⟨w.heap.size + 1 + 1 + 1 + 1, 0, none⟩)], .int .i64 (q : Int), .int .u32 u, .int .u64 r, .int .u64 (r * 4294967296), .int .u32 u, .int .u64 u, .int .u64 t, .slice (some ⟨w.heap.size + 1, 0, none⟩) N N, .int .i64 (q : Int), .int .u64 t, .int .u32 d, .int .u64 d, .int .u64 v, undef, undef, undef, undef, undef, undef, undef, undef, undef, undef], defers := [] } (World.drew (W.setCell ⟨w.heap.size + 1 + 1 + 1, 0, none⟩ (.int .u64 t))) := by
      rw [← hZ]
      refine wpAnyIn_ready (rs := [6]) (by kernel_rfl) (by simp) ?_
      refine AllReadyIn.cons rfl (fun K hK => ?_) ?_
      · go_simp
        exact hK _ _ (by rw [hZ]; exact s_0123456)
      exact AllReadyIn.nil
    have s_023456 : Z 3 #[true, false, true, true, true, true, true, false, false] { tmps := #[.slice A1 N c1, .int .u32 d, undef, .pointer (some ⟨w.heap.size, 0, none⟩), .slice none 0 0, .int .u32 0, .pointer (some ⟨w.heap.size + 1 + 1, 0, none⟩), .pointer (some ⟨w.heap.size + 1 + 1 + 1, 0, none⟩), .int .i64 (q : Int), .int .u32 u, .slice A1 N c1, .int .i64 (N : Int), .slice (some ⟨w.heap.size + 1, 0, none⟩) N N, .slice A1 N c1, .func (.func 80) #[] #[.pointer (some ⟨w.heap.size + 1 + 1 + 1 + 1, 0, none⟩)], .int .i64 (q : Int), .int .u32 u, .int .u64 r, .int .u64 (r * 4294967296), .int .u32 u, .int .u64 u, .int .u64 t, .slice (some ⟨w.heap.size + 1, 0, none⟩) N N, undef, .int .u64 t, .int .u32 d, .int .u64 d, .int .u64 v, .int .u32 v, undef, undef, undef, undef, undef, undef, undef, undef, undef], defers := [] } (World.drew (W.setCell ⟨w.heap.size + 1 + 1 + 1, 0, none⟩ (.int .u64 t))) := by
      rw [← hZ]
      refine wpAnyIn_ready (rs := [1]) (by kernel_rfl) (by simp) ?_
      refine AllReadyIn.cons rfl (fun K hK => ?_) ?_
      · go_simp
        exact hK _ _ (by rw [hZ]; exact s_0123456)
      exact AllReadyIn.nil
    have s_123456 : Z 3 #[false, true, true, true, true, true, true, false, false] { tmps := #[.slice A1 N c1, .int .u32 d, undef, .pointer (some ⟨w.heap.size, 0, none⟩), .slice none 0 0, .int .u32 0, .pointer (some ⟨w.heap.size + 1 + 1, 0, none⟩), .pointer (some ⟨w.heap.size + 1 + 1 + 1, 0, none⟩), .int .i64 (q : Int), .int .u32 u, .slice A1 N c1, .int .i64 (N : Int), .slice (some ⟨w.heap.size + 1, 0, none⟩) N N, .slice A1 N c1, .func (.func 80) #[] #[.pointer (some ⟨w.heap.size + 1 + 1 + 1 + 1, 0, none⟩)], .int .i64 (q : Int), .int .u32 u, .int .u64 r, .int .u64 (r * 4294967296), .int .u32 u, .int .u64 u, .int .u64 t, undef, .int .i64 (q : Int), .int .u64 t, .int .u32 d, .int .u64 d, .int .u64 v, .int .u32 v, undef, undef, undef, undef, undef, undef, undef, undef, undef], defers := [] } (World.drew (W.setCell ⟨w.heap.size + 1 + 1 + 1, 0, none⟩ (.int .u64 t))) := by
      rw [← hZ]
      refine wpAnyIn_ready (rs := [0]) (by kernel_rfl) (by simp) ?_
      refine AllReadyIn.cons rfl (fun K hK => ?_) ?_
      · go_simp
        exact hK _ _ (by rw [hZ]; exact s_0123456)
      exact AllReadyIn.nil
    have s_01234 : Z 4 #[true, true, true, true, true, false, false, false, false] { tmps := #[.slice A1 N c1, .int .u32 d, undef, .pointer (some ⟨w.heap.size, 0, none⟩), .slice none 0 0, .int .u32 0, .pointer (some ⟨w.heap.size + 1 + 1, 0, none⟩), .pointer (some ⟨w.heap.size + 1 + 1 + 1, 0, none⟩), .int .i64 (q : Int), .int .u32 u, .slice A1 N c1, .int .i64 (N : Int), .slice (some ⟨w.heap.size + 1, 0, none⟩) N N, .slice A1 N c1, .func (.func 80) #[] #[.pointer (some ⟨w.heap.size + 1 + 1 + 1 + 1, 0, none⟩)], .int .i64 (q : Int), .int .u32 u, .int .u64 r, .int .u64 (r * 4294967296), .int .u32 u, .int .u64 u, .int .u64 t, .slice (some ⟨w.heap.size + 1, 0, none⟩) N N, .int .i64 (q : Int), .int .u64 t, .int .u32 d, .int .u64 d, undef, undef, undef, undef, undef, undef, undef, undef, undef, undef, undef], defers := [] } (World.drew (W.setCell ⟨w.heap.size + 1 + 1 + 1, 0, none⟩ (.int .u64 t))) := by
      rw [← hZ]
      refine wpAnyIn_ready (rs := [5]) (by kernel_rfl) (by simp) ?_
      refine AllReadyIn.cons rfl (fun K hK => ?_) ?_
      · go_simp
        exact hK _ _ (by rw [hZ]; exact s_012345)
      exact AllReadyIn.nil
    have s_02345 : Z 4 #[true, false, true, true, true, true, false, false, false] { tmps := #[.slice A1 N c1, .int .u32 d, undef, .pointer (some ⟨w.heap.size, 0, none⟩), .slice none 0 0, .int .u32 0, .pointer (some ⟨w.heap.size + 1 + 1, 0, none⟩), .pointer (some ⟨w.heap.size + 1 + 1 + 1, 0, none⟩), .int .i64 (q : Int), .int .u32 u, .slice A1 N c1, .int .i64 (N : Int), .slice (some ⟨w.heap.size + 1, 0, none⟩) N N, .slice A1 N c1, .func (.func 80) #[] #[.pointer (some ⟨w.heap.size + 1 + 1 + 1 + 1, 0, none⟩)], .int .i64 (q : Int), .int .u32 u, .int .u64 r, .int .u64 (r * 4294967296), .int .u32 u, .int .u64 u, .int .u64 t, .slice (some ⟨w.heap.size + 1, 0, none⟩) N N, undef, .int .u64 t, .int .u32 d, .int .u64 d, .int .u64 v, undef, undef, undef, undef, undef, undef, undef, undef, undef, undef], defers := [] } (World.drew (W.setCell ⟨w.heap.size + 1 + 1 + 1, 0, none⟩ (.int .u64 t))) := by
      rw [← hZ]
      refine wpAnyIn_ready (rs := [1, 6]) (by kernel_rfl) (by simp) ?_
      refine AllReadyIn.cons rfl (fun K hK => ?_) ?_
      · go_simp
        exact hK _ _ (by rw [hZ]; exact s_012345)
      refine AllReadyIn.cons rfl (fun K hK => ?_) ?_
      · go_simp
        exact hK _ _ (by rw [hZ]; exact s_023456)
      exact AllReadyIn.nil
    have s_12345 : Z 4 #[false, true, true, true, true, true, false, false, false] { tmps := #[.slice A1 N c1, .int .u32 d, undef, .pointer (some ⟨w.heap.size, 0, none⟩), .slice none 0 0, .int .u32 0, .pointer (some ⟨w.heap.size + 1 + 1, 0, none⟩), .pointer (some ⟨w.heap.size + 1 + 1 + 1, 0, none⟩), .int .i64 (q : Int), .int .u32 u, .slice A1 N c1, .int .i64 (N : Int), .slice (some ⟨w.heap.size + 1, 0, none⟩) N N, .slice A1 N c1, .func (.func 80) #[] #[.pointer (some ⟨w.heap.size + 1 + 1 + 1 + 1, 0, none⟩)], .int .i64 (q : Int), .int .u32 u, .int .u64 r, .int .u64 (r * 4294967296), .int .u32 u, .int .u64 u, .int .u64 t, undef, .int .i64 (q : Int), .int .u64 t, .int .u32 d, .int .u64 d, .int .u64 v, undef, undef, undef, undef, undef, undef, undef, undef, undef, undef], defers := [] } (World.drew (W.setCell ⟨w.heap.size + 1 + 1 + 1, 0, none⟩ (.int .u64 t))) := by
      rw [← hZ]
      refine wpAnyIn_ready (rs := [0, 6]) (by kernel_rfl) (by simp) ?_
      refine AllReadyIn.cons rfl (fun K hK => ?_) ?_
      · go_simp
        exact hK _ _ (by rw [hZ]; exact s_012345)
      refine AllReadyIn.cons rfl (fun K hK => ?_) ?_
      · go_simp
        exact hK _ _ (by rw [hZ]; exact s_123456)
      exact AllReadyIn.nil
    have s_23456 : Z 4 #[false, false, true, true, true, true, true, false, false] { tmps := #[.slice A1 N c1, .int .u32 d, undef, .pointer (some ⟨w.heap.size, 0, none⟩), .slice none 0 0, .int .u32 0, .pointer (some ⟨w.heap.size + 1 + 1, 0, none⟩), .pointer (some ⟨w.heap.size + 1 + 1 + 1, 0, none⟩), .int .i64 (q : Int), .int .u32 u, .slice A1 N c1, .int .i64 (N : Int), .slice (some ⟨w.heap.size + 1, 0, none⟩) N N, .slice A1 N c1, .func (.func 80) #[] #[.pointer (some ⟨w.heap.size + 1 + 1 + 1 + 1, 0, none⟩)], .int .i64 (q : Int), .int .u32 u, .int .u64 r, .int .u64 (r * 4294967296), .int .u32 u, .int .u64 u, .int .u64 t, undef, undef, .int .u64 t, .int .u32 d, .int .u64 d, .int .u64 v, .int .u32 v, undef, undef, undef, undef, undef, undef, undef, undef, undef], defers := [] } (World.drew (W.setCell ⟨w.heap.size + 1 + 1 + 1, 0, none⟩ (.int .u64 t))) := by
      rw [← hZ]
      refine wpAnyIn_ready (rs := [0, 1]) (by kernel_rfl) (by simp) ?_
      refine AllReadyIn.cons rfl (fun K hK => ?_) ?_
      · go_simp
        exact hK _ _ (by rw [hZ]; exact s_023456)
      refine AllReadyIn.cons rfl (fun K hK => ?_) ?_
      · go_simp
        exact hK _ _ (by rw [hZ]; exact s_123456)
      exact AllReadyIn.nil
    have s_0123 : Z 5 #[true, true, true, true, false, false, false, false, false] { tmps := #[.slice A1 N c1, .int .u32 d, undef, .pointer (some ⟨w.heap.size, 0, none⟩), .slice none 0 0, .int .u32 0, .pointer (some ⟨w.heap.size + 1 + 1, 0, none⟩), .pointer (some ⟨w.heap.size + 1 + 1 + 1, 0, none⟩), .int .i64 (q : Int), .int .u32 u, .slice A1 N c1, .int .i64 (N : Int), .slice (some ⟨w.heap.size + 1, 0, none⟩) N N, .slice A1 N c1, .func (.func 80) #[] #[.pointer (some ⟨w.heap.size + 1 + 1 + 1 + 1, 0, none⟩)], .int .i64 (q : Int), .int .u32 u, .int .u64 r, .int .u64 (r * 4294967296), .int .u32 u, .int .u64 u, .int .u64 t, .slice (some ⟨w.heap.size + 1, 0, none⟩) N N, .int .i64 (q : Int), .int .u64 t, .int .u32 d, undef, undef, undef, undef, undef, undef, undef, undef, undef, undef, undef, undef], defers := [] } (World.drew (W.setCell ⟨w.heap.size + 1 + 1 + 1, 0, none⟩ (.int .u64 t))) := by
      rw [← hZ]
      refine wpAnyIn_ready (rs := [4]) (by kernel_rfl) (by simp) ?_
      refine AllReadyIn.cons rfl (fun K hK => ?_) ?_
      · go_simp
        exact hK _ _ (by rw [hZ]; exact s_01234)
      exact AllReadyIn.nil
    have s_0134 : Z 5 #[true, true, false, true, true, false, false, false, false] { tmps := #[.slice A1 N c1, .int .u32 d, undef, .pointer (some ⟨w.heap.size, 0, none⟩), .slice none 0 0, .int .u32 0, .pointer (some ⟨w.heap.size + 1 + 1, 0, none⟩), .pointer (some ⟨w.heap.size + 1 + 1 + 1, 0, none⟩), .int .i64 (q : Int), .int .u32 u, .slice A1 N c1, .int .i64 (N : Int), .slice (some ⟨w.heap.size + 1, 0, none⟩) N N, .slice A1 N c1, .func (.func 80) #[] #[.pointer (some ⟨w.heap.size + 1 + 1 + 1 + 1, 0, none⟩)], .int .i64 (q : Int), .int .u32 u, .int .u64 r, .int .u64 (r * 4294967296), .int .u32 u, .int .u64 u, .int .u64 t, .slice (some ⟨w.heap.size + 1, 0, none⟩) N N, .int .i64 (q : Int), undef, .int .u32 d, .int .u64 d, undef, undef, undef, undef, undef, undef, undef, undef, undef, undef, undef], defers := [] } (World.drew (W.setCell ⟨w.heap.size + 1 + 1 + 1, 0, none⟩ (.int .u64 t))) := by
      rw [← hZ]
      refine wpAnyIn_ready (rs := [2]) (by kernel_rfl) (by simp) ?_
      refine AllReadyIn.cons rfl (fun K hK => ?_) ?_
      · go_simp
        exact hK _ _ (by rw [hZ]; exact s_01234)
      exact AllReadyIn.nil
    have s_0234 : Z 5 #[true, false, true, true, true, false, false, false, false] { tmps := #[.slice A1 N c1, .int .u32 d, undef, .pointer (some ⟨w.heap.size, 0, none⟩), .slice none 0 0, .int .u32 0, .pointer (some ⟨w.heap.size + 1 + 1, 0, none⟩), .pointer (some ⟨w.heap.size + 1 + 1 + 1, 0, none⟩), .int .i64 (q : Int), .int .u32 u, .slice A1 N c1, .int .i64 (N : Int), .slice (some ⟨w.heap.size + 1, 0, none⟩) N N, .slice A1 N c1, .func (.func 80) #[] #[.pointer (some ⟨w.heap.size + 1 + 1 + 1 + 1, 0, none⟩)], .int .i64 (q : Int), .int .u32 u, .int .u64 r, .int .u64 (r * 4294967296), .int .u32 u, .int .u64 u, .int .u64 t, .slice (some ⟨w.heap.size + 1, 0, none⟩) N N, undef, .int .u64 t, .int .u32 d, .int .u64 d, undef, undef, undef, undef, undef, undef, undef, undef, undef, undef, undef], defers := [] } (World.drew (W.setCell ⟨w.heap.size + 1 + 1 + 1, 0, none⟩ (.int .u64 t))) := by
      rw [← hZ]
      refine wpAnyIn_ready (rs := [1, 5]) (by kernel_rfl) (by simp) ?_
      refine AllReadyIn.cons rfl (fun K hK => ?_) ?_
      · go_simp
        exact hK _ _ (by rw [hZ]; exact s_01234)
      refine AllReadyIn.cons rfl (fun K hK => ?_) ?_
      · go_simp
        exact hK _ _ (by rw [hZ]; exact s_02345)
      exact AllReadyIn.nil
    have s_1234 : Z 5 #[false, true, true, true, true, false, false, false, false] { tmps := #[.slice A1 N c1, .int .u32 d, undef, .pointer (some ⟨w.heap.size, 0, none⟩), .slice none 0 0, .int .u32 0, .pointer (some ⟨w.heap.size + 1 + 1, 0, none⟩), .pointer (some ⟨w.heap.size + 1 + 1 + 1, 0, none⟩), .int .i64 (q : Int), .int .u32 u, .slice A1 N c1, .int .i64 (N : Int), .slice (some ⟨w.heap.size + 1, 0, none⟩) N N, .slice A1 N c1, .func (.func 80) #[] #[.pointer (some ⟨w.heap.size + 1 + 1 + 1 + 1, 0, none⟩)], .int .i64 (q : Int), .int .u32 u, .int .u64 r, .int .u64 (r * 4294967296), .int .u32 u, .int .u64 u, .int .u64 t, undef, .int .i64 (q : Int), .int .u64 t, .int .u32 d, .int .u64 d, undef, undef, undef, undef, undef, undef, undef, undef, undef, undef, undef], defers := [] } (World.drew (W.setCell ⟨w.heap.size + 1 + 1 + 1, 0, none⟩ (.int .u64 t))) := by
      rw [← hZ]
      refine wpAnyIn_ready (rs := [0, 5]) (by kernel_rfl) (by simp) ?_
      refine AllReadyIn.cons rfl (fun K hK => ?_) ?_
      · go_simp
        exact hK _ _ (by rw [hZ]; exact s_01234)
      refine AllReadyIn.cons rfl (fun K hK => ?_) ?_
      · go_simp
        exact hK _ _ (by rw [hZ]; exact s_12345)
      exact AllReadyIn.nil
    have s_2345 : Z 5 #[false, false, true, true, true, true, false, false, false] { tmps := #[.slice A1 N c1, .int .u32 d, undef, .pointer (some ⟨w.heap.size, 0, none⟩), .slice none 0 0, .int .u32 0, .pointer (some ⟨w.heap.size + 1 + 1, 0, none⟩), .pointer (some ⟨w.heap.size + 1 + 1 + 1, 0, none⟩), .int .i64 (q : Int), .int .u32 u, .slice A1 N c1, .int .i64 (N : Int), .slice (some ⟨w.heap.size + 1, 0, none⟩) N N, .slice A1 N c1, .func (.func 80) #[] #[.pointer (some ⟨w.heap.size + 1 + 1 + 1 + 1, 0, none⟩)], .int .i64 (q : Int), .int .u32 u, .int .u64 r, .int .u64 (r * 4294967296), .int .u32 u, .int .u64 u, .int .u64 t, undef, undef, .int .u64 t, .int .u32 d, .int .u64 d, .int .u64 v, undef, undef, undef, undef, undef, undef, undef, undef, undef, undef], defers := [] } (World.drew (W.setCell ⟨w.heap.size + 1 + 1 + 1, 0, none⟩ (.int .u64 t))) := by
      rw [← hZ]
      refine wpAnyIn_ready (rs := [0, 1, 6]) (by kernel_rfl) (by simp) ?_
      refine AllReadyIn.cons rfl (fun K hK => ?_) ?_
      · go_simp
        exact hK _ _ (by rw [hZ]; exact s_02345)
      refine AllReadyIn.cons rfl (fun K hK => ?_) ?_
      · go_simp
        exact hK _ _ (by rw [hZ]; exact s_12345)
      refine AllReadyIn.cons rfl (fun K hK => ?_) ?_
      · go_simp
        exact hK _ _ (by rw [hZ]; exact s_23456)
      exact AllReadyIn.nil
    have s_012 : Z 6 #[true, true, true, false, false, false, false, false, false] { tmps := #[.slice A1 N c1, .int .u32 d, undef, .pointer (some ⟨w.heap.size, 0, none⟩), .slice none 0 0, .int .u32 0, .pointer (some ⟨w.heap.size + 1 + 1, 0, none⟩), .pointer (some ⟨w.heap.size + 1 + 1 + 1, 0, none⟩), .int .i64 (q : Int), .int .u32 u, .slice A1 N c1, .int .i64 (N : Int), .slice (some ⟨w.heap.size + 1, 0, none⟩) N N, .slice A1 N c1, .func (.func 80) #[] #[.pointer (some ⟨w.heap.size + 1 + 1 + 1 + 1, 0, none⟩)], .int .i64 (q : Int), .int .u32 u, .int .u64 r, .int .u64 (r * 4294967296), .int .u32 u, .int .u64 u, .int .u64 t, .slice (some ⟨w.heap.size + 1, 0, none⟩) N N, .int .i64 (q : Int), .int .u64 t, undef, undef, undef, undef, undef, undef, undef, undef, undef, undef, undef, undef, undef], defers := [] } (World.drew (W.setCell ⟨w.heap.size + 1 + 1 + 1, 0, none⟩ (.int .u64 t))) := by
      rw [← hZ]
      refine wpAnyIn_ready (rs := [3]) (by kernel_rfl) (by simp) ?_
      refine AllReadyIn.cons rfl (fun K hK => ?_) ?_
      · go_simp
        exact hK _ _ (by rw [hZ]; exact s_0123)
      exact AllReadyIn.nil
    have s_013 : Z 6 #[true, true, false, true, false, false, false, false, false] { tmps := #[.slice A1 N c1, .int .u32 d, undef, .pointer (some ⟨w.heap.size, 0, none⟩), .slice none 0 0, .int .u32 0, .pointer (some ⟨w.heap.size + 1 + 1, 0, none⟩), .pointer (some ⟨w.heap.size + 1 + 1 + 1, 0, none⟩), .int .i64 (q : Int), .int .u32 u, .slice A1 N c1, .int .i64 (N : Int), .slice (some ⟨w.heap.size + 1, 0, none⟩) N N, .slice A1 N c1, .func (.func 80) #[] #[.pointer (some ⟨w.heap.size + 1 + 1 + 1 + 1, 0, none⟩)], .int .i64 (q : Int), .int .u32 u, .int .u64 r, .int .u64 (r * 4294967296), .int .u32 u, .int .u64 u, .int .u64 t, .slice (some ⟨w.heap.size + 1, 0, none⟩) N N, .int .i64 (q : Int), undef, .int .u32 d, undef, undef, undef, undef, undef, undef, undef, undef, undef, undef, undef, undef], defers := [] } (World.drew (W.setCell ⟨w.heap.size + 1 + 1 + 1, 0, none⟩ (.int .u64 t))) := by
      rw [← hZ]
      refine wpAnyIn_ready (rs := [2, 4]) (by kernel_rfl) (by simp) ?_
      refine AllReadyIn.cons rfl (fun K hK => ?_) ?_
      · go_simp
        exact hK _ _ (by rw [hZ]; exact s_0123)
      refine AllReadyIn.cons rfl (fun K hK => ?_) ?_
      · go_simp
        exact hK _ _ (by rw [hZ]; exact s_0134)
      exact AllReadyIn.nil
    have s_023 : Z 6 #[true, false, true, true, false, false, false, false, false] { tmps := #[.slice A1 N c1, .int .u32 d, undef, .pointer (some ⟨w.heap.size, 0, none⟩), .slice none 0 0, .int .u32 0, .pointer (some ⟨w.heap.size + 1 + 1, 0, none⟩), .pointer (some ⟨w.heap.size + 1 + 1 + 1, 0, none⟩), .int .i64 (q : Int), .int .u32 u, .slice A1 N c1, .int .i64 (N : Int), .slice (some ⟨w.heap.size + 1, 0, none⟩) N N, .slice A1 N c1, .func (.func 80) #[] #[.pointer (some ⟨w.heap.size + 1 + 1 + 1 + 1, 0, none⟩)], .int .i64 (q : Int), .int .u32 u, .int .u64 r, .int .u64 (r * 4294967296), .int .u32 u, .int .u64 u, .int .u64 t, .slice (some ⟨w.heap.size + 1, 0, none⟩) N N, undef, .int .u64 t, .int .u32 d, undef, undef, undef, undef, undef, undef, undef, undef, undef, undef, undef, undef], defers := [] } (World.drew (W.setCell ⟨w.heap.size + 1 + 1 + 1, 0, none⟩ (.int .u64 t))) := by
      rw [← hZ]
      refine wpAnyIn_ready (rs := [1, 4]) (by kernel_rfl) (by simp) ?_
      refine AllReadyIn.cons rfl (fun K hK => ?_) ?_
      · go_simp
        exact hK _ _ (by rw [hZ]; exact s_0123)
      refine AllReadyIn.cons rfl (fun K hK => ?_) ?_
      · go_simp
        exact hK _ _ (by rw [hZ]; exact s_0234)
      exact AllReadyIn.nil
    have s_034 : Z 6 #[true, false, false, true, true, false, false, false, false] { tmps := #[.slice A1 N c1, .int .u32 d, undef, .pointer (some ⟨w.heap.size, 0, none⟩), .slice none 0 0, .int .u32 0, .pointer (some ⟨w.heap.size + 1 + 1, 0, none⟩), .pointer (some ⟨w.heap.size + 1 + 1 + 1, 0, none⟩), .int .i64 (q : Int), .int .u32 u, .slice A1 N c1, .int .i64 (N : Int), .slice (some ⟨w.heap.size + 1, 0, none⟩) N N, .slice A1 N c1, .func (.func 80) #[] #[.pointer (some ⟨w.heap.size + 1 + 1 + 1 + 1, 0, none⟩)], .int .i64 (q : Int), .int .u32 u, .int .u64 r, .int .u64 (r * 4294967296), .int .u32 u, .int .u64 u, .int .u64 t, .slice (some ⟨w.heap.size + 1, 0, none⟩) N N, undef, undef, .int .u32 d, .int .u64 d, undef, undef, undef, undef, undef, undef, undef, undef, undef, undef, undef], defers := [] } (World.drew (W.setCell ⟨w.heap.size + 1 + 1 + 1, 0, none⟩ (.int .u64 t))) := by
      rw [← hZ]
      refine wpAnyIn_ready (rs := [1, 2]) (by kernel_rfl) (by simp) ?_
      refine AllReadyIn.cons rfl (fun K hK => ?_) ?_
      · go_simp
        exact hK _ _ (by rw [hZ]; exact s_0134)
      refine AllReadyIn.cons rfl (fun K hK => ?_) ?_
      · go_simp
        exact hK _ _ (by rw [hZ]; exact s_0234)
      exact AllReadyIn.nil
    have s_123 : Z 6 #[false, true, true, true, false, false, false, false, false] { tmps := #[.slice A1 N c1, .int .u32 d, undef, .pointer (some ⟨w.heap.size, 0, none⟩), .slice none 0 0, .int .u32 0, .pointer (some ⟨w.heap.size + 1 + 1, 0, none⟩), .pointer (some ⟨w.heap.size + 1 + 1 + 1, 0, none⟩), .int .i64 (q : Int), .int .u32 u, .slice A1 N c1, .int .i64 (N : Int), .slice (some ⟨w.heap.size + 1, 0, none⟩) N N, .slice A1 N c1, .func (.func 80) #[] #[.pointer (some ⟨w.heap.size + 1 + 1 + 1 + 1, 0, none⟩)], .int .i64 (q : Int), .int .u32 u, .int .u64 r, .int .u64 (r * 4294967296), .int .u32 u, .int .u64 u, .int .u64 t, undef, .int .i64 (q : Int), .int .u64 t, .int .u32 d, undef, undef, undef, undef, undef, undef, undef, undef, undef, undef, undef, undef], defers := [] } (World.drew (W.setCell ⟨w.heap.size + 1 + 1 + 1, 0, none⟩ (.int .u64 t))) := by
      rw [← hZ]
      refine wpAnyIn_ready (rs := [0, 4]) (by kernel_rfl) (by simp) ?_
      refine AllReadyIn.cons rfl (fun K hK => ?_) ?_
      · go_simp
        exact hK _ _ (by rw [hZ]; exact s_0123)
      refine AllReadyIn.cons rfl (fun K hK => ?_) ?_
      · go_simp
        exact hK _ _ (by rw [hZ]; exact s_1234)
      exact AllReadyIn.nil
    have s_134 : Z 6 #[false, true, false, true, true, false, false, false, false] { tmps := #[.slice A1 N c1, .int .u32 d, undef, .pointer (some ⟨w.heap.size, 0, none⟩), .slice none 0 0, .int .u32 0, .pointer (some ⟨w.heap.size + 1 + 1, 0, none⟩), .pointer (some ⟨w.heap.size + 1 + 1 + 1, 0, none⟩), .int .i64 (q : Int), .int .u32 u, .slice A1 N c1, .int .i64 (N : Int), .slice (some ⟨w.heap.size + 1, 0, none⟩) N N, .slice A1 N c1, .func (.func 80) #[] #[.pointer (some ⟨w.heap.size + 1 + 1 + 1 + 1, 0, none⟩)], .int .i64 (q : Int), .int .u32 u, .int .u64 r, .int .u64 (r * 4294967296), .int .u32 u, .int .u64 u, .int .u64 t, undef, .int .i64 (q : Int), undef, .int .u32 d, .int .u64 d, undef, undef, undef, undef, undef, undef, undef, undef, undef, undef, undef], defers := [] } (World.drew (W.setCell ⟨w.heap.size + 1 + 1 + 1, 0, none⟩ (.int .u64 t))) := by
      rw [← hZ]
      refine wpAnyIn_ready (rs := [0, 2]) (by kernel_rfl) (by simp) ?_
      refine AllReadyIn.cons rfl (fun K hK => ?_) ?_
      · go_simp
        exact hK _ _ (by rw [hZ]; exact s_0134)
      refine AllReadyIn.cons rfl (fun K hK => ?_) ?_
      · go_simp
        exact hK _ _ (by rw [hZ]; exact s_1234)
      exact AllReadyIn.nil
    have s_234 : Z 6 #[false, false, true, true, true, false, false, false, false] { tmps := #[.slice A1 N c1, .int .u32 d, undef, .pointer (some ⟨w.heap.size, 0, none⟩), .slice none 0 0, .int .u32 0, .pointer (some ⟨w.heap.size + 1 + 1, 0, none⟩), .pointer (some ⟨w.heap.size + 1 + 1 + 1, 0, none⟩), .int .i64 (q : Int), .int .u32 u, .slice A1 N c1, .int .i64 (N : Int), .slice (some ⟨w.heap.size + 1, 0, none⟩) N N, .slice A1 N c1, .func (.func 80) #[] #[.pointer (some ⟨w.heap.size + 1 + 1 + 1 + 1, 0, none⟩)], .int .i64 (q : Int), .int .u32 u, .int .u64 r, .int .u64 (r * 4294967296), .int .u32 u, .int .u64 u, .int .u64 t, undef, undef, .int .u64 t, .int .u32 d, .int .u64 d, undef, undef, undef, undef, undef, undef, undef, undef, undef, undef, undef], defers := [] } (World.drew (W.setCell ⟨w.heap.size + 1 + 1 + 1, 0, none⟩ (.int .u64 t))) := by
      rw [← hZ]
      refine wpAnyIn_ready (rs := [0, 1, 5]) (by kernel_rfl) (by simp) ?_
      refine AllReadyIn.cons rfl (fun K hK => ?_) ?_
      · go_simp
        exact hK _ _ (by rw [hZ]; exact s_0234)
      refine AllReadyIn.cons rfl (fun K hK => ?_) ?_
      · go_simp
        exact hK _ _ (by rw [hZ]; exact s_1234)
      refine AllReadyIn.cons rfl (fun K hK => ?_) ?_
      · go_simp
        exact hK _ _ (by rw [hZ]; exact s_2345)
      exact AllReadyIn.nil
    have s_01 : Z 7 #[true, true, false, false, false, false, false, false, false] { tmps := #[.slice A1 N c1, .int .u32 d, undef, .pointer (some ⟨w.heap.size, 0, none⟩), .slice none 0 0, .int .u32 0, .pointer (some ⟨w.heap.size + 1 + 1, 0, none⟩), .pointer (some ⟨w.heap.size + 1 + 1 + 1, 0, none⟩), .int .i64 (q : Int), .int .u32 u, .slice A1 N c1, .int .i64 (N : Int), .slice (some ⟨w.heap.size + 1, 0, none⟩) N N, .slice A1 N c1, .func (.func 80) #[] #[.pointer (some ⟨w.heap.size + 1 + 1 + 1 + 1, 0, none⟩)], .int .i64 (q : Int), .int .u32 u, .int .u64 r, .int .u64 (r * 4294967296), .int .u32 u, .int .u64 u, .int .u64 t, .slice (some ⟨w.heap.size + 1, 0, none⟩) N N, .int .i64 (q : Int), undef, undef, undef, undef, undef, undef, undef, undef, undef, undef, undef, undef, undef, undef], defers := [] } (World.drew (W.setCell ⟨w.heap.size + 1 + 1 + 1, 0, none⟩ (.int .u64 t))) := by
      rw [← hZ]
      refine wpAnyIn_ready (rs := [2, 3]) (by kernel_rfl) (by simp) ?_
      refine AllReadyIn.cons rfl (fun K hK => ?_) ?_
      · go_simp
        exact hK _ _ (by rw [hZ]; exact s_012)
      refine AllReadyIn.cons rfl (fun K hK => ?_) ?_
      · go_simp
        exact hK _ _ (by rw [hZ]; exact s_013)
      exact AllReadyIn.nil
    have s_02 : Z 7 #[true, false, true, false, false, false, false, false, false] { tmps := #[.slice A1 N c1, .int .u32 d, undef, .pointer (some ⟨w.heap.size, 0, none⟩), .slice none 0 0, .int .u32 0, .pointer (some ⟨w.heap.size + 1 + 1, 0, none⟩), .pointer (some ⟨w.heap.size + 1 + 1 + 1, 0, none⟩), .int .i64 (q : Int), .int .u32 u, .slice A1 N c1, .int .i64 (N : Int), .slice (some ⟨w.heap.size + 1, 0, none⟩) N N, .slice A1 N c1, .func (.func 80) #[] #[.pointer (some ⟨w.heap.size + 1 + 1 + 1 + 1, 0, none⟩)], .int .i64 (q : Int), .int .u32 u, .int .u64 r, .int .u64 (r * 4294967296), .int .u32 u, .int .u64 u, .int .u64 t, .slice (some ⟨w.heap.size + 1, 0, none⟩) N N, undef, .int .u64 t, undef, undef, undef, undef, undef, undef, undef, undef, undef, undef, undef, undef, undef], defers := [] } (World.drew (W.setCell ⟨w.heap.size + 1 + 1 + 1, 0, none⟩ (.int .u64 t))) := by
      rw [← hZ]
      refine wpAnyIn_ready (rs := [1, 3]) (by kernel_rfl) (by simp) ?_
      refine AllReadyIn.cons rfl (fun K hK => ?_) ?_
      · go_simp
        exact hK _ _ (by rw [hZ]; exact s_012)
      refine AllReadyIn.cons rfl (fun K hK => ?_) ?_
      · go_simp
        exact hK _ _ (by rw [hZ]; exact s_023)
      exact AllReadyIn.nil
    have s_03 : Z 7 #[true, false, false, true, false, false, false, false, false] { tmps := #[.slice A1 N c1, .int .u32 d, undef, .pointer (some ⟨w.heap.size, 0, none⟩), .slice none 0 0, .int .u32 0, .pointer (some ⟨w.heap.size + 1 + 1, 0, none⟩), .pointer (some ⟨w.heap.size + 1 + 1 + 1, 0, none⟩), .int .i64 (q : Int), .int .u32 u, .slice A1 N c1, .int .i64 (N : Int), .slice (some ⟨w.heap.size + 1, 0, none⟩) N N, .slice A1 N c1, .func (.func 80) #[] #[.pointer (some ⟨w.heap.size + 1 + 1 + 1 + 1, 0, none⟩)], .int .i64 (q : Int), .int .u32 u, .int .u64 r, .int .u64 (r * 4294967296), .int .u32 u, .int .u64 u, .int .u64 t, .slice (some ⟨w.heap.size + 1, 0, none⟩) N N, undef, undef, .int .u32 d, undef, undef, undef, undef, undef, undef, undef, undef, undef, undef, undef, undef], defers := [] } (World.drew (W.setCell ⟨w.heap.size + 1 + 1 + 1, 0, none⟩ (.int .u64 t))) := by
      rw [← hZ]
      refine wpAnyIn_ready (rs := [1, 2, 4]) (by kernel_rfl) (by simp) ?_
      refine AllReadyIn.cons rfl (fun K hK => ?_) ?_
      · go_simp
        exact hK _ _ (by rw [hZ]; exact s_013)
      refine AllReadyIn.cons rfl (fun K hK => ?_) ?_
      · go_simp
        exact hK _ _ (by rw [hZ]; exact s_023)
      refine AllReadyIn.cons rfl (fun K hK => ?_) ?_
      · go_simp
        exact hK _ _ (by rw [hZ]; exact s_034)
      exact AllReadyIn.nil
    have s_12 : Z 7 #[false, true, true, false, false, false, false, false, false] { tmps := #[.slice A1 N c1, .int .u32 d, undef, .pointer (some ⟨w.heap.size, 0, none⟩), .slice none 0 0, .int .u32 0, .pointer (some ⟨w.heap.size + 1 + 1, 0, none⟩), .pointer (some ⟨w.heap.size + 1 + 1 + 1, 0, none⟩), .int .i64 (q : Int), .int .u32 u, .slice A1 N c1, .int .i64 (N : Int), .slice (some ⟨w.heap.size + 1, 0, none⟩) N N, .slice A1 N c1, .func (.func 80) #[] #[.pointer (some ⟨w.heap.size + 1 + 1 + 1 + 1, 0, none⟩)], .int .i64 (q : Int), .int .u32 u, .int .u64 r, .int .u64 (r * 4294967296), .int .u32 u, .int .u64 u, .int .u64 t, undef, .int .i64 (q : Int), .int .u64 t, undef, undef, undef, undef, undef, undef, undef, undef, undef, undef, undef, undef, undef], defers := [] } (World.drew (W.setCell ⟨w.heap.size + 1 + 1 + 1, 0, none⟩ (.int .u64 t))) := by
      rw [← hZ]
      refine wpAnyIn_ready (rs := [0, 3]) (by kernel_rfl) (by simp) ?_
      refine AllReadyIn.cons rfl (fun K hK => ?_) ?_
      · go_simp
        exact hK _ _ (by rw [hZ]; exact s_012)
      refine AllReadyIn.cons rfl (fun K hK => ?_) ?_
      · go_simp
        exact hK _ _ (by rw [hZ]; exact s_123)
      exact AllReadyIn.nil
    have s_13 : Z 7 #[false, true, false, true, false, false, false, false, false] { tmps := #[.slice A1 N c1, .int .u32 d, undef, .pointer (some ⟨w.heap.size, 0, none⟩), .slice none 0 0, .int .u32 0, .pointer (some ⟨w.heap.size + 1 + 1, 0, none⟩), .pointer (some ⟨w.heap.size + 1 + 1 + 1, 0, none⟩), .int .i64 (q : Int), .int .u32 u, .slice A1 N c1, .int .i64 (N : Int), .slice (some ⟨w.heap.size + 1, 0, none⟩) N N, .slice A1 N c1, .func (.func 80) #[] #[.pointer (some ⟨w.heap.size + 1 + 1 + 1 + 1, 0, none⟩)], .int .i64 (q : Int), .int .u32 u, .int .u64 r, .int .u64 (r * 4294967296), .int .u32 u, .int .u64 u, .int .u64 t, undef, .int .i64 (q : Int), undef, .int .u32 d, undef, undef, undef, undef, undef, undef, undef, undef, undef, undef, undef, undef], defers := [] } (World.drew (W.setCell ⟨w.heap.size + 1 + 1 + 1, 0, none⟩ (.int .u64 t))) := by
      rw [← hZ]
      refine wpAnyIn_ready (rs := [0, 2, 4]) (by kernel_rfl) (by simp) ?_
      refine AllReadyIn.cons rfl (fun K hK => ?_) ?_
      · go_simp
        exact hK _ _ (by rw [hZ]; exact s_013)
      refine AllReadyIn.cons rfl (fun K hK => ?_) ?_
      · go_simp
        exact hK _ _ (by rw [hZ]; exact s_123)
      refine AllReadyIn.cons rfl (fun K hK => ?_) ?_
      · go_simp
        exact hK _ _ (by rw [hZ]; exact s_134)
      exact AllReadyIn.nil
    have s_23 : Z 7 #[false, false, true, true, false, false, false, false, false] { tmps := #[.slice A1 N c1, .int .u32 d, undef, .pointer (some ⟨w.heap.size, 0, none⟩), .slice none 0 0, .int .u32 0, .pointer (some ⟨w.heap.size + 1 + 1, 0, none⟩), .pointer (some ⟨w.heap.size + 1 + 1 + 1, 0, none⟩), .int .i64 (q : Int), .int .u32 u, .slice A1 N c1, .int .i64 (N : Int), .slice (some ⟨w.heap.size + 1, 0, none⟩) N N, .slice A1 N c1, .func (.func 80) #[] #[.pointer (some ⟨w.heap.size + 1 + 1 + 1 + 1, 0, none⟩)], .int .i64 (q : Int), .int .u32 u, .int .u64 r, .int .u64 (r * 4294967296), .int .u32 u, .int .u64 u, .int .u64 t, undef, undef, .int .u64 t, .int .u32 d, undef, undef, undef, undef, undef, undef, undef, undef, undef, undef, undef, undef], defers := [] } (World.drew (W.setCell ⟨w.heap.size + 1 + 1 + 1, 0, none⟩ (.int .u64 t))) := by
      rw [← hZ]
      refine wpAnyIn_ready (rs := [0, 1, 4]) (by kernel_rfl) (by simp) ?_
      refine AllReadyIn.cons rfl (fun K hK => ?_) ?_
      · go_simp
        exact hK _ _ (by rw [hZ]; exact s_023)
      refine AllReadyIn.cons rfl (fun K hK => ?_) ?_
      · go_simp
        exact hK _ _ (by rw [hZ]; exact s_123)
      refine AllReadyIn.cons rfl (fun K hK => ?_) ?_
      · go_simp
        exact hK _ _ (by rw [hZ]; exact s_234)
      exact AllReadyIn.nil
    have s_34 : Z 7 #[false, false, false, true, true, false, false, false, false] { tmps := #[.slice A1 N c1, .int .u32 d, undef, .pointer (some ⟨w.heap.size, 0, none⟩), .slice none 0 0, .int .u32 0, .pointer (some ⟨w.heap.size + 1 + 1, 0, none⟩), .pointer (some ⟨w.heap.size + 1 + 1 + 1, 0, none⟩), .int .i64 (q : Int), .int .u32 u, .slice A1 N c1, .int .i64 (N : Int), .slice (some ⟨w.heap.size + 1, 0, none⟩) N N, .slice A1 N c1, .func (.func 80) #[] #[.pointer (some ⟨w.heap.size + 1 + 1 + 1 + 1, 0, none⟩)], .int .i64 (q : Int), .int .u32 u, .int .u64 r, .int .u64 (r * 4294967296), .int .u32 u, .int .u64 u, .int .u64 t, undef, undef, undef, .int .u32 d, .int .u64 d, undef, undef, undef, undef, undef, undef, undef, undef, undef, undef, undef], defers := [] } (World.drew (W.setCell ⟨w.heap.size + 1 + 1 + 1, 0, none⟩ (.int .u64 t))) := by
      rw [← hZ]
      refine wpAnyIn_ready (rs := [0, 1, 2]) (by kernel_rfl) (by simp) ?_
      refine AllReadyIn.cons rfl (fun K hK => ?_) ?_
      · go_simp
        exact hK _ _ (by rw [hZ]; exact s_034)
      refine AllReadyIn.cons rfl (fun K hK => ?_) ?_
      · go_simp
        exact hK _ _ (by rw [hZ]; exact s_134)
      refine AllReadyIn.cons rfl (fun K hK => ?_) ?_
      · go_simp
        exact hK _ _ (by rw [hZ]; exact s_234)
      exact AllReadyIn.nil
    have s_0 : Z 8 #[true, false, false, false, false, false, false, false, false] { tmps := #[.slice A1 N c1, .int .u32 d, undef, .pointer (some ⟨w.heap.size, 0, none⟩), .slice none 0 0, .int .u32 0, .pointer (some ⟨w.heap.size + 1 + 1, 0, none⟩), .pointer (some ⟨w.heap.size + 1 + 1 + 1, 0, none⟩), .int .i64 (q : Int), .int .u32 u, .slice A1 N c1, .int .i64 (N : Int), .slice (some ⟨w.heap.size + 1, 0, none⟩) N N, .slice A1 N c1, .func (.func 80) #[] #[.pointer (some ⟨w.heap.size + 1 + 1 + 1 + 1, 0, none⟩)], .int .i64 (q : Int), .int .u32 u, .int .u64 r, .int .u64 (r * 4294967296), .int .u32 u, .int .u64 u, .int .u64 t, .slice (some ⟨w.heap.size + 1, 0, none⟩) N N, undef, undef, undef, undef, undef, undef, undef, undef, undef, undef, undef, undef, undef, undef, undef], defers := [] } (World.drew (W.setCell ⟨w.heap.size + 1 + 1 + 1, 0, none⟩ (.int .u64 t))) := by
      rw [← hZ]
      refine wpAnyIn_ready (rs := [1, 2, 3]) (by kernel_rfl) (by simp) ?_
      refine AllReadyIn.cons rfl (fun K hK => ?_) ?_
      · go_simp
        exact hK _ _ (by rw [hZ]; exact s_01)
      refine AllReadyIn.cons rfl (fun K hK => ?_) ?_
      · go_simp
        exact hK _ _ (by rw [hZ]; exact s_02)
      refine AllReadyIn.cons rfl (fun K hK => ?_) ?_
      · go_simp
        exact hK _ _ (by rw [hZ]; exact s_03)
      exact AllReadyIn.nil
    have s_1 : Z 8 #[false, true, false, false, false, false, false, false, false] { tmps := #[.slice A1 N c1, .int .u32 d, undef, .pointer (some ⟨w.heap.size, 0, none⟩), .slice none 0 0, .int .u32 0, .pointer (some ⟨w.heap.size + 1 + 1, 0, none⟩), .pointer (some ⟨w.heap.size + 1 + 1 + 1, 0, none⟩), .int .i64 (q : Int), .int .u32 u, .slice A1 N c1, .int .i64 (N : Int), .slice (some ⟨w.heap.size + 1, 0, none⟩) N N, .slice A1 N c1, .func (.func 80) #[] #[.pointer (some ⟨w.heap.size + 1 + 1 + 1 + 1, 0, none⟩)], .int .i64 (q : Int), .int .u32 u, .int .u64 r, .int .u64 (r * 4294967296), .int .u32 u, .int .u64 u, .int .u64 t, undef, .int .i64 (q : Int), undef, undef, undef, undef, undef, undef, undef, undef, undef, undef, undef, undef, undef, undef], defers := [] } (World.drew (W.setCell ⟨w.heap.size + 1 + 1 + 1, 0, none⟩ (.int .u64 t))) := by
      rw [← hZ]
      refine wpAnyIn_ready (rs := [0, 2, 3]) (by kernel_rfl) (by simp) ?_
      refine AllReadyIn.cons rfl (fun K hK => ?_) ?_
      · go_simp
        exact hK _ _ (by rw [hZ]; exact s_01)
      refine AllReadyIn.cons rfl (fun K hK => ?_) ?_
      · go_simp
        exact hK _ _ (by rw [hZ]; exact s_12)
      refine AllReadyIn.cons rfl (fun K hK => ?_) ?_
      · go_simp
        exact hK _ _ (by rw [hZ]; exact s_13)
      exact AllReadyIn.nil
    have s_2 : Z 8 #[false, false, true, false, false, false, false, false, false] { tmps := #[.slice A1 N c1, .int .u32 d, undef, .pointer (some ⟨w.heap.size, 0, none⟩), .slice none 0 0, .int .u32 0, .pointer (some ⟨w.heap.size + 1 + 1, 0, none⟩), .pointer (some ⟨w.heap.size + 1 + 1 + 1, 0, none⟩), .int .i64 (q : Int), .int .u32 u, .slice A1 N c1, .int .i64 (N : Int), .slice (some ⟨w.heap.size + 1, 0, none⟩) N N, .slice A1 N c1, .func (.func 80) #[] #[.pointer (some ⟨w.heap.size + 1 + 1 + 1 + 1, 0, none⟩)], .int .i64 (q : Int), .int .u32 u, .int .u64 r, .int .u64 (r * 4294967296), .int .u32 u, .int .u64 u, .int .u64 t, undef, undef, .int .u64 t, undef, undef, undef, undef, undef, undef, undef, undef, undef, undef, undef, undef, undef], defers := [] } (World.drew (W.setCell ⟨w.heap.size + 1 + 1 + 1, 0, none⟩ (.int .u64 t))) := by
      rw [← hZ]
      refine wpAnyIn_ready (rs := [0, 1, 3]) (by kernel_rfl) (by simp) ?_
      refine AllReadyIn.cons rfl (fun K hK => ?_) ?_
      · go_simp
        exact hK _ _ (by rw [hZ]; exact s_02)
      refine AllReadyIn.cons rfl (fun K hK => ?_) ?_
      · go_simp
        exact hK _ _ (by rw [hZ]; exact s_12)
      refine AllReadyIn.cons rfl (fun K hK => ?_) ?_
      · go_simp
        exact hK _ _ (by rw [hZ]; exact s_23)
      exact AllReadyIn.nil
    have s_3 : Z 8 #[false, false, false, true, false, false, false, false, false] { tmps := #[.slice A1 N c1, .int .u32 d, undef, .pointer (some ⟨w.heap.size, 0, none⟩), .slice none 0 0, .int .u32 0, .pointer (some ⟨w.heap.size + 1 + 1, 0, none⟩), .pointer (some ⟨w.heap.size + 1 + 1 + 1, 0, none⟩), .int .i64 (q : Int), .int .u32 u, .slice A1 N c1, .int .i64 (N : Int), .slice (some ⟨w.heap.size + 1, 0, none⟩) N N, .slice A1 N c1, .func (.func 80) #[] #[.pointer (some ⟨w.heap.size + 1 + 1 + 1 + 1, 0, none⟩)], .int .i64 (q : Int), .int .u32 u, .int .u64 r, .int .u64 (r * 4294967296), .int .u32 u, .int .u64 u, .int .u64 t, undef, undef, undef, .int .u32 d, undef, undef, undef, undef, undef, undef, undef, undef, undef, undef, undef, undef], defers := [] } (World.drew (W.setCell ⟨w.heap.size + 1 + 1 + 1, 0, none⟩ (.int .u64 t))) := by
      rw [← hZ]
      refine wpAnyIn_ready (rs := [0, 1, 2, 4]) (by kernel_rfl) (by simp) ?_
      refine AllReadyIn.cons rfl (fun K hK => ?_) ?_
      · go_simp
        exact hK _ _ (by rw [hZ]; exact s_03)
      refine AllReadyIn.cons rfl (fun K hK => ?_) ?_
      · go_simp
        exact hK _ _ (by rw [hZ]; exact s_13)
      refine AllReadyIn.cons rfl (fun K hK => ?_) ?_
      · go_simp
        exact hK _ _ (by rw [hZ]; exact s_23)
      refine AllReadyIn.cons rfl (fun K hK => ?_) ?_
      · go_simp
        exact hK _ _ (by rw [hZ]; exact s_34)
      exact AllReadyIn.nil
    have s_ : Z 9 #[false, false, false, false, false, false, false, false, false] { tmps := #[.slice A1 N c1, .int .u32 d, undef, .pointer (some ⟨w.heap.size, 0, none⟩), .slice none 0 0, .int .u32 0, .pointer (some ⟨w.heap.size + 1 + 1, 0, none⟩), .pointer (some ⟨w.heap.size + 1 + 1 + 1, 0, none⟩), .int .i64 (q : Int), .int .u32 u, .slice A1 N c1, .int .i64 (N : Int), .slice (some ⟨w.heap.size + 1, 0, none⟩) N N, .slice A1 N c1, .func (.func 80) #[] #[.pointer (some ⟨w.heap.size + 1 + 1 + 1 + 1, 0, none⟩)], .int .i64 (q : Int), .int .u32 u, .int .u64 r, .int .u64 (r * 4294967296), .int .u32 u, .int .u64 u, .int .u64 t, undef, undef, undef, undef, undef, undef, undef, undef, undef, undef, undef, undef, undef, undef, undef, undef], defers := [] } (World.drew (W.setCell ⟨w.heap.size + 1 + 1 + 1, 0, none⟩ (.int .u64 t))) := by
      rw [← hZ]
      refine wpAnyIn_ready (rs := [0, 1, 2, 3]) (by kernel_rfl) (by simp) ?_
      refine AllReadyIn.cons rfl (fun K hK => ?_) ?_
      · go_simp
        exact hK _ _ (by rw [hZ]; exact s_0)
      refine AllReadyIn.cons rfl (fun K hK => ?_) ?_
      · go_simp
        exact hK _ _ (by rw [hZ]; exact s_1)
      refine AllReadyIn.cons rfl (fun K hK => ?_) ?_
      · go_simp
        exact hK _ _ (by rw [hZ]; exact s_2)
      refine AllReadyIn.cons rfl (fun K hK => ?_) ?_
      · go_simp
        exact hK _ _ (by rw [hZ]; exact s_3)
      exact AllReadyIn.nil
    exact s_
  case done =>
    rintro D ys W hD hys ⟨⟨ho, hcr, hfr, hbo, hbd⟩, hB⟩ hK
    rw [hys] at ho hcr
    obtain ⟨s1, r, hs⟩ : ∃ s1 r, foldS a d N (upto (fun k => a.length - 1 - k) a.length) = (s1, r) := ⟨_, _, rfl⟩
    have hlen := foldS_len a d N (upto (fun k => a.length - 1 - k) a.length)
    have hrem := foldS_rem a hd0 N (upto (fun k => a.length - 1 - k) a.length)
    rw [hs] at ho hcr hlen hrem
    simp only at ho hcr hlen hrem
    have hoA : Apart (OutAt w.heap.size W s1) := ⟨ho⟩
    clear ho hys
    have hrb : w.heap.size + 1 + 1 + 1 < W.heap.size := by
      have := cell_block hcr
      exact this
    have hwr : IntKind.u32.wrap r = r := by rw [wu32]; omega
    have hDb : D < W.heap.size := (Array.getElem?_eq_some_iff.1 hK).1
    gi_wp2
    refine wpIn_region_any (by kernel_rfl) ?_
    change wpAnyIn _ _ _ _ _ _ _ _ _ (World.drew _)
    generalize hZ : wpAnyIn _ _ _ _ _ _ = Z
    have u_012345 : ∀ (W2 : World) (v' : Value), (Below W.heap.size W W2 ∧ RepD Tryd.prog (.sl (.int .u32)) W2 (fun b' => S b' ∨ b' = w.heap.size + 1 ∨ (W.heap.size ≤ b' ∧ b' < W2.heap.size)) (trimL s1) [v']) → Z 0 #[true, true, true, true, true, true] { tmps := #[.slice A1 N c1, .int .u32 d, undef, .pointer (some ⟨w.heap.size, 0, none⟩), v', .int .u32 r, .pointer (some ⟨w.heap.size + 1 + 1, 0, none⟩), .pointer (some ⟨w.heap.size + 1 + 1 + 1, 0, none⟩), undef, undef, .slice A1 N c1, .int .i64 (N : Int), .slice (some ⟨w.heap.size + 1, 0, none⟩) N N, .slice A1 N c1, .func (.func 80) #[] #[.pointer (some ⟨w.heap.size + 1 + 1 + 1 + 1, 0, none⟩)], undef, undef, undef, undef, undef, undef, undef, undef, undef, undef, undef, undef, undef, undef, undef, undef, undef, undef, undef, .slice (some ⟨w.heap.size + 1, 0, none⟩) N N, v', .int .u64 r, .int .u32 r], defers := [{ target := .collected D, args := #[] }] } W2 := by
      intro W2 v' hP
      have hcr2 : W2.cell? ⟨w.heap.size + 1 + 1 + 1, 0, none⟩ = some (.int .u64 r) := (hP.1.cell (p := ⟨w.heap.size + 1 + 1 + 1, 0, none⟩) hrb).trans hcr
      rw [← hZ]
      refine wpAnyIn_done (by kernel_rfl) ?_ 0
      gi_wp2
      have hK' : W2.heap[D]? = some (.deferred (some [])) := (hP.1.block D hDb).trans hK
      refine ⟨by simp, .inl ⟨_, _, rfl, run_takeDeferred hK', ?_⟩⟩
      have hB2 : Below w.heap.size w (W2.putObj D (.deferred none)) := (hB.trans (hP.1.mono hB.size)).trans (belowK_b (w := w) (Nat.le_refl _) W2 D _ _ (by simp at hD; omega) hK' rfl rfl)
      refine ⟨.tuple #[v', .int .u32 r], by simp [results, Tryd.f71, go_sem], v', by rw [hs], hB2, ?_⟩
      rw [hs]
      refine RepD.mono (S := fun b' => S b' ∨ b' = w.heap.size + 1 ∨ (W.heap.size ≤ b' ∧ b' < W2.heap.size)) ?_ hP.2
      intro b hb
      have hsz : (W2.putObj D (.deferred none)).heap.size = W2.heap.size := by simp
      have hne : b ≠ D := by
        rintro rfl
        rcases hb with hb | rfl | hb
        · have := hS b hb; simp at hD; omega
        · have := hoA.out
          unfold OutAt at this
          rw [hK] at this
          cases this
        · omega
      refine ⟨?_, World.putObj_heap_other (fun e => hne e)⟩
      rw [hsz]
      have h5 := hP.1.size
      rcases hb with hb | rfl | hb
      · exact .inl hb
      · exact .inr ⟨by omega, by omega⟩
      · have := hB.size
        exact .inr ⟨by omega, by omega⟩
    have u_01234 : ∀ (W2 : World) (v' : Value), (Below W.heap.size W W2 ∧ RepD Tryd.prog (.sl (.int .u32)) W2 (fun b' => S b' ∨ b' = w.heap.size + 1 ∨ (W.heap.size ≤ b' ∧ b' < W2.heap.size)) (trimL s1) [v']) → Z 1 #[true, true, true, true, true, false] { tmps := #[.slice A1 N c1, .int .u32 d, undef, .pointer (some ⟨w.heap.size, 0, none⟩), v', .int .u32 0, .pointer (some ⟨w.heap.size + 1 + 1, 0, none⟩), .pointer (some ⟨w.heap.size + 1 + 1 + 1, 0, none⟩), undef, undef, .slice A1 N c1, .int .i64 (N : Int), .slice (some ⟨w.heap.size + 1, 0, none⟩) N N, .slice A1 N c1, .func (.func 80) #[] #[.pointer (some ⟨w.heap.size + 1 + 1 + 1 + 1, 0, none⟩)], undef, undef, undef, undef, undef, undef, undef, undef, undef, undef, undef, undef, undef, undef, undef, undef, undef, undef, undef, .slice (some ⟨w.heap.size + 1, 0, none⟩) N N, v', .int .u64 r, .int .u32 r], defers := [{ target := .collected D, args := #[] }] } W2 := by
      intro W2 v' hP
      have hcr2 : W2.cell? ⟨w.heap.size + 1 + 1 + 1, 0, none⟩ = some (.int .u64 r) := (hP.1.cell (p := ⟨w.heap.size + 1 + 1 + 1, 0, none⟩) hrb).trans hcr
      rw [← hZ]
      refine wpAnyIn_ready (rs := [5]) (by kernel_rfl) (by simp) ?_
      refine AllReadyIn.cons rfl (fun K hK => ?_) ?_
      · go_simp
        exact hK _ _ (by rw [hZ]; exact u_012345 W2 v' hP)
      exact AllReadyIn.nil
    have u_0123 : ∀ (W2 : World) (v' : Value), (Below W.heap.size W W2 ∧ RepD Tryd.prog (.sl (.int .u32)) W2 (fun b' => S b' ∨ b' = w.heap.size + 1 ∨ (W.heap.size ≤ b' ∧ b' < W2.heap.size)) (trimL s1) [v']) → Z 2 #[true, true, true, true, false, false] { tmps := #[.slice A1 N c1, .int .u32 d, undef, .pointer (some ⟨w.heap.size, 0, none⟩), .slice none 0 0, .int .u32 0, .pointer (some ⟨w.heap.size + 1 + 1, 0, none⟩), .pointer (some ⟨w.heap.size + 1 + 1 + 1, 0, none⟩), undef, undef, .slice A1 N c1, .int .i64 (N : Int), .slice (some ⟨w.heap.size + 1, 0, none⟩) N N, .slice A1 N c1, .func (.func 80) #[] #[.pointer (some ⟨w.heap.size + 1 + 1 + 1 + 1, 0, none⟩)], undef, undef, undef, undef, undef, undef, undef, undef, undef, undef, undef, undef, undef, undef, undef, undef, undef, undef, undef, .slice (some ⟨w.heap.size + 1, 0, none⟩) N N, v', .int .u64 r, .int .u32 r], defers := [{ target := .collected D, args := #[] }] } W2 := by
      intro W2 v' hP
      have hcr2 : W2.cell? ⟨w.heap.size + 1 + 1 + 1, 0, none⟩ = some (.int .u64 r) := (hP.1.cell (p := ⟨w.heap.size + 1 + 1 + 1, 0, none⟩) hrb).trans hcr
      rw [← hZ]
      refine wpAnyIn_ready (rs := [4]) (by kernel_rfl) (by simp) ?_
      refine AllReadyIn.cons rfl (fun K hK => ?_) ?_
      · go_simp
        exact hK _ _ (by rw [hZ]; exact u_01234 W2 v' hP)
      exact AllReadyIn.nil
    have u_0124 : ∀ (W2 : World) (v' : Value), (Below W.heap.size W W2 ∧ RepD Tryd.prog (.sl (.int .u32)) W2 (fun b' => S b' ∨ b' = w.heap.size + 1 ∨ (W.heap.size ≤ b' ∧ b' < W2.heap.size)) (trimL s1) [v']) → Z 2 #[true, true, true, false, true, false] { tmps := #[.slice A1 N c1, .int .u32 d, undef, .pointer (some ⟨w.heap.size, 0, none⟩), v', .int .u32 0, .pointer (some ⟨w.heap.size + 1 + 1, 0, none⟩), .pointer (some ⟨w.heap.size + 1 + 1 + 1, 0, none⟩), undef, undef, .slice A1 N c1, .int .i64 (N : Int), .slice (some ⟨w.heap.size + 1, 0, none⟩) N N, .slice A1 N c1, .func (.func 80) #[] #[.pointer (some ⟨w.heap.size + 1 + 1 + 1 + 1, 0, none⟩)], undef, undef, undef, undef, undef, undef, undef, undef, undef, undef, undef, undef, undef, undef, undef, undef, undef, undef, undef, .slice (some ⟨w.heap.size + 1, 0, none⟩) N N, v', .int .u64 r, undef], defers := [{ target := .collected D, args := #[] }] } W2 := by
      intro W2 v' hP
      have hcr2 : W2.cell? ⟨w.heap.size + 1 + 1 + 1, 0, none⟩ = some (.int .u64 r) := (hP.1.cell (p := ⟨w.heap.size + 1 + 1 + 1, 0, none⟩) hrb).trans hcr
      rw [← hZ]
      refine wpAnyIn_ready (rs := [3]) (by kernel_rfl) (by simp) ?_
      refine AllReadyIn.cons rfl (fun K hK => ?_) ?_
      · go_simp
        exact hK _ _ (by rw [hZ]; exact u_01234 W2 v' hP)
      exact AllReadyIn.nil
    have u_012 : ∀ (W2 : World) (v' : Value), (Below W.heap.size W W2 ∧ RepD Tryd.prog (.sl (.int .u32)) W2 (fun b' => S b' ∨ b' = w.heap.size + 1 ∨ (W.heap.size ≤ b' ∧ b' < W2.heap.size)) (trimL s1) [v']) → Z 3 #[true, true, true, false, false, false] { tmps := #[.slice A1 N c1, .int .u32 d, undef, .pointer (some ⟨w.heap.size, 0, none⟩), .slice none 0 0, .int .u32 0, .pointer (some ⟨w.heap.size + 1 + 1, 0, none⟩), .pointer (some ⟨w.heap.size + 1 + 1 + 1, 0, none⟩), undef, undef, .slice A1 N c1, .int .i64 (N : Int), .slice (some ⟨w.heap.size + 1, 0, none⟩) N N, .slice A1 N c1, .func (.func 80) #[] #[.pointer (some ⟨w.heap.size + 1 + 1 + 1 + 1, 0, none⟩)], undef, undef, undef, undef, undef, undef, undef, undef, undef, undef, undef, undef, undef, undef, undef, undef, undef, undef, undef, .slice (some ⟨w.heap.size + 1, 0, none⟩) N N, v', .int .u64 r, undef], defers := [{ target := .collected D, args := #[] }] } W2 := by
      intro W2 v' hP
      have hcr2 : W2.cell? ⟨w.heap.size + 1 + 1 + 1, 0, none⟩ = some (.int .u64 r) := (hP.1.cell (p := ⟨w.heap.size + 1 + 1 + 1, 0, none⟩) hrb).trans hcr
      rw [← hZ]
      refine wpAnyIn_ready (rs := [3, 4]) (by kernel_rfl) (by simp) ?_
      refine AllReadyIn.cons rfl (fun K hK => ?_) ?_
      · go_simp
        exact hK _ _ (by rw [hZ]; exact u_0123 W2 v' hP)
      refine AllReadyIn.cons rfl (fun K hK => ?_) ?_
      · go_simp
        exact hK _ _ (by rw [hZ]; exact u_0124 W2 v' hP)
      exact AllReadyIn.nil
    have u_014 : ∀ (W2 : World) (v' : Value), (Below W.heap.size W W2 ∧ RepD Tryd.prog (.sl (.int .u32)) W2 (fun b' => S b' ∨ b' = w.heap.size + 1 ∨ (W.heap.size ≤ b' ∧ b' < W2.heap.size)) (trimL s1) [v']) → Z 3 #[true, true, false, false, true, false] { tmps := #[.slice A1 N c1, .int .u32 d, undef, .pointer (some ⟨w.heap.size, 0, none⟩), v', .int .u32 0, .pointer (some ⟨w.heap.size + 1 + 1, 0, none⟩), .pointer (some ⟨w.heap.size + 1 + 1 + 1, 0, none⟩), undef, undef, .slice A1 N c1, .int .i64 (N : Int), .slice (some ⟨w.heap.size + 1, 0, none⟩) N N, .slice A1 N c1, .func (.func 80) #[] #[.pointer (some ⟨w.heap.size + 1 + 1 + 1 + 1, 0, none⟩)], undef, undef, undef, undef, undef, undef, undef, undef, undef, undef, undef, undef, undef, undef, undef, undef, undef, undef, undef, .slice (some ⟨w.heap.size + 1, 0, none⟩) N N, v', undef, undef], defers := [{ target := .collected D, args := #[] }] } W2 := by
      intro W2 v' hP
      have hcr2 : W2.cell? ⟨w.heap.size + 1 + 1 + 1, 0, none⟩ = some (.int .u64 r) := (hP.1.cell (p := ⟨w.heap.size + 1 + 1 + 1, 0, none⟩) hrb).trans hcr
      rw [← hZ]
      refine wpAnyIn_ready (rs := [2]) (by kernel_rfl) (by simp) ?_
      refine AllReadyIn.cons rfl (fun K hK => ?_) ?_
      · go_simp
        exact hK _ _ (by rw [hZ]; exact u_0124 W2 v' hP)
      exact AllReadyIn.nil
    have u_01 : ∀ (W2 : World) (v' : Value), (Below W.heap.size W W2 ∧ RepD Tryd.prog (.sl (.int .u32)) W2 (fun b' => S b' ∨ b' = w.heap.size + 1 ∨ (W.heap.size ≤ b' ∧ b' < W2.heap.size)) (trimL s1) [v']) → Z 4 #[true, true, false, false, false, false] { tmps := #[.slice A1 N c1, .int .u32 d, undef, .pointer (some ⟨w.heap.size, 0, none⟩), .slice none 0 0, .int .u32 0, .pointer (some ⟨w.heap.size + 1 + 1, 0, none⟩), .pointer (some ⟨w.heap.size + 1 + 1 + 1, 0, none⟩), undef, undef, .slice A1 N c1, .int .i64 (N : Int), .slice (some ⟨w.heap.size + 1, 0, none⟩) N N, .slice A1 N c1, .func (.func 80) #[] #[.pointer (some ⟨w.heap.size + 1 + 1 + 1 + 1, 0, none⟩)], undef, undef, undef, undef, undef, undef, undef, undef, undef, undef, undef, undef, undef, undef, undef, undef, undef, undef, undef, .slice (some ⟨w.heap.size + 1, 0, none⟩) N N, v', undef, undef], defers := [{ target := .collected D, args := #[] }] } W2 := by
      intro W2 v' hP
      have hcr2 : W2.cell? ⟨w.heap.size + 1 + 1 + 1, 0, none⟩ = some (.int .u64 r) := (hP.1.cell (p := ⟨w.heap.size + 1 + 1 + 1, 0, none⟩) hrb).trans hcr
      rw [← hZ]
      refine wpAnyIn_ready (rs := [2, 4]) (by kernel_rfl) (by simp) ?_
      refine AllReadyIn.cons rfl (fun K hK => ?_) ?_
      · go_simp
        exact hK _ _ (by rw [hZ]; exact u_012 W2 v' hP)
      refine AllReadyIn.cons rfl (fun K hK => ?_) ?_
      · go_simp
        exact hK _ _ (by rw [hZ]; exact u_014 W2 v' hP)
      exact AllReadyIn.nil
    have p_023 : Z 3 #[true, false, true, true, false, false] { tmps := #[.slice A1 N c1, .int .u32 d, undef, .pointer (some ⟨w.heap.size, 0, none⟩), .slice none 0 0, .int .u32 0, .pointer (some ⟨w.heap.size + 1 + 1, 0, none⟩), .pointer (some ⟨w.heap.size + 1 + 1 + 1, 0, none⟩), undef, undef, .slice A1 N c1, .int .i64 (N : Int), .slice (some ⟨w.heap.size + 1, 0, none⟩) N N, .slice A1 N c1, .func (.func 80) #[] #[.pointer (some ⟨w.heap.size + 1 + 1 + 1 + 1, 0, none⟩)], undef, undef, undef, undef, undef, undef, undef, undef, undef, undef, undef, undef, undef, undef, undef, undef, undef, undef, undef, .slice (some ⟨w.heap.size + 1, 0, none⟩) N N, undef, .int .u64 r, .int .u32 r], defers := [{ target := .collected D, args := #[] }] } (World.drew W) := by
      rw [← hZ]
      refine wpAnyIn_ready (rs := [1]) (by kernel_rfl) (by simp) ?_
      refine AllReadyIn.cons rfl (fun K hK => ?_) ?_
      · go_simp
        refine (htrim (World.drew W) s1 (w.heap.size + 1) (Below.drew hB) hlen hoA.out).mono ?_
        rintro e W2 ⟨v', rfl, hb2, hR2⟩
        exact hK _ _ (by rw [hZ]; exact u_0123 W2 v' ⟨⟨hb2.os, hb2.tape, hb2.output, hb2.size, hb2.block⟩, hR2⟩)
      exact AllReadyIn.nil
    have p_02 : Z 4 #[true, false, true, false, false, false] { tmps := #[.slice A1 N c1, .int .u32 d, undef, .pointer (some ⟨w.heap.size, 0, none⟩), .slice none 0 0, .int .u32 0, .pointer (some ⟨w.heap.size + 1 + 1, 0, none⟩), .pointer (some ⟨w.heap.size + 1 + 1 + 1, 0, none⟩), undef, undef, .slice A1 N c1, .int .i64 (N : Int), .slice (some ⟨w.heap.size + 1, 0, none⟩) N N, .slice A1 N c1, .func (.func 80) #[] #[.pointer (some ⟨w.heap.size + 1 + 1 + 1 + 1, 0, none⟩)], undef, undef, undef, undef, undef, undef, undef, undef, undef, undef, undef, undef, undef, undef, undef, undef, undef, undef, undef, .slice (some ⟨w.heap.size + 1, 0, none⟩) N N, undef, .int .u64 r, undef], defers := [{ target := .collected D, args := #[] }] } (World.drew W) := by
      rw [← hZ]
      refine wpAnyIn_ready (rs := [1, 3]) (by kernel_rfl) (by simp) ?_
      refine AllReadyIn.cons rfl (fun K hK => ?_) ?_
      · go_simp
        refine (htrim (World.drew W) s1 (w.heap.size + 1) (Below.drew hB) hlen hoA.out).mono ?_
        rintro e W2 ⟨v', rfl, hb2, hR2⟩
        exact hK _ _ (by rw [hZ]; exact u_012 W2 v' ⟨⟨hb2.os, hb2.tape, hb2.output, hb2.size, hb2.block⟩, hR2⟩)
      refine AllReadyIn.cons rfl (fun K hK => ?_) ?_
      · go_simp
        exact hK _ _ (by rw [hZ]; exact p_023)
      exact AllReadyIn.nil
    have p_23 : Z 4 #[false, false, true, true, false, false] { tmps := #[.slice A1 N c1, .int .u32 d, undef, .pointer (some ⟨w.heap.size, 0, none⟩), .slice none 0 0, .int .u32 0, .pointer (some ⟨w.heap.size + 1 + 1, 0, none⟩), .pointer (some ⟨w.heap.size + 1 + 1 + 1, 0, none⟩), undef, undef, .slice A1 N c1, .int .i64 (N : Int), .slice (some ⟨w.heap.size + 1, 0, none⟩) N N, .slice A1 N c1, .func (.func 80) #[] #[.pointer (some ⟨w.heap.size + 1 + 1 + 1 + 1, 0, none⟩)], undef, undef, undef, undef, undef, undef, undef, undef, undef, undef, undef, undef, undef, undef, undef, undef, undef, undef, undef, undef, undef, .int .u64 r, .int .u32 r], defers := [{ target := .collected D, args := #[] }] } (World.drew W) := by
      rw [← hZ]
      refine wpAnyIn_ready (rs := [0]) (by kernel_rfl) (by simp) ?_
      refine AllReadyIn.cons rfl (fun K hK => ?_) ?_
      · go_simp
        exact hK _ _ (by rw [hZ]; exact p_023)
      exact AllReadyIn.nil
    have p_0 : Z 5 #[true, false, false, false, false, false] { tmps := #[.slice A1 N c1, .int .u32 d, undef, .pointer (some ⟨w.heap.size, 0, none⟩), .slice none 0 0, .int .u32 0, .pointer (some ⟨w.heap.size + 1 + 1, 0, none⟩), .pointer (some ⟨w.heap.size + 1 + 1 + 1, 0, none⟩), undef, undef, .slice A1 N c1, .int .i64 (N : Int), .slice (some ⟨w.heap.size + 1, 0, none⟩) N N, .slice A1 N c1, .func (.func 80) #[] #[.pointer (some ⟨w.heap.size + 1 + 1 + 1 + 1, 0, none⟩)], undef, undef, undef, undef, undef, undef, undef, undef, undef, undef, undef, undef, undef, undef, undef, undef, undef, undef, undef, .slice (some ⟨w.heap.size + 1, 0, none⟩) N N, undef, undef, undef], defers := [{ target := .collected D, args := #[] }] } (World.drew W) := by
      rw [← hZ]
      refine wpAnyIn_ready (rs := [1, 2]) (by kernel_rfl) (by simp) ?_
      refine AllReadyIn.cons rfl (fun K hK => ?_) ?_
      · go_simp
        refine (htrim (World.drew W) s1 (w.heap.size + 1) (Below.drew hB) hlen hoA.out).mono ?_
        rintro e W2 ⟨v', rfl, hb2, hR2⟩
        exact hK _ _ (by rw [hZ]; exact u_01 W2 v' ⟨⟨hb2.os, hb2.tape, hb2.output, hb2.size, hb2.block⟩, hR2⟩)
      refine AllReadyIn.cons rfl (fun K hK => ?_) ?_
      · go_simp
        exact hK _ _ (by rw [hZ]; exact p_02)
      exact AllReadyIn.nil
    have p_2 : Z 5 #[false, false, true, false, false, false] { tmps := #[.slice A1 N c1, .int .u32 d, undef, .pointer (some ⟨w.heap.size, 0, none⟩), .slice none 0 0, .int .u32 0, .pointer (some ⟨w.heap.size + 1 + 1, 0, none⟩), .pointer (some ⟨w.heap.size + 1 + 1 + 1, 0, none⟩), undef, undef, .slice A1 N c1, .int .i64 (N : Int), .slice (some ⟨w.heap.size + 1, 0, none⟩) N N, .slice A1 N c1, .func (.func 80) #[] #[.pointer (some ⟨w.heap.size + 1 + 1 + 1 + 1, 0, none⟩)], undef, undef, undef, undef, undef, undef, undef, undef, undef, undef, undef, undef, undef, undef, undef, undef, undef, undef, undef, undef, undef, .int .u64 r, undef], defers := [{ target := .collected D, args := #[] }] } (World.drew W) := by
      rw [← hZ]
      refine wpAnyIn_ready (rs := [0, 3]) (by kernel_rfl) (by simp) ?_
      refine AllReadyIn.cons rfl (fun K hK => ?_) ?_
      · go_simp
        exact hK _ _ (by rw [hZ]; exact p_02)
      refine AllReadyIn.cons rfl (fun K hK => ?_) ?_
      · go_simp
        exact hK _ _ (by rw [hZ]; exact p_23)
      exact AllReadyIn.nil
    have p_ : Z 6 #[false, false, false, false, false, false] { tmps := #[.slice A1 N c1, .int .u32 d, undef, .pointer (some ⟨w.heap.size, 0, none⟩), .slice none 0 0, .int .u32 0, .pointer (some ⟨w.heap.size + 1 + 1, 0, none⟩), .pointer (some ⟨w.heap.size + 1 + 1 + 1, 0, none⟩), undef, undef, .slice A1 N c1, .int .i64 (N : Int), .slice (some ⟨w.heap.size + 1, 0, none⟩) N N, .slice A1 N c1, .func (.func 80) #[] #[.pointer (some ⟨w.heap.size + 1 + 1 + 1 + 1, 0, none⟩)], undef, undef, undef, undef, undef, undef, undef, undef, undef, undef, undef, undef, undef, undef, undef, undef, undef, undef, undef, undef, undef, undef, undef], defers := [{ target := .collected D, args := #[] }] } (World.drew W) := by
      rw [← hZ]
      refine wpAnyIn_ready (rs := [0, 2]) (by kernel_rfl) (by simp) ?_
      refine AllReadyIn.cons rfl (fun K hK => ?_) ?_
      · go_simp
        exact hK _ _ (by rw [hZ]; exact p_0)
      refine AllReadyIn.cons rfl (fun K hK => ?_) ?_
      · go_simp
        exact hK _ _ (by rw [hZ]; exact p_2)
      exact AllReadyIn.nil
    exact p_
  case stop =>
    rintro D c pre W hD _ h hK
    exact h.elim

theorem foldS_law {a : List Int} {d : Int} (oa : ok L.W a) (hd0 : 0 < d) (hd1 : d < 4294967296) : ∀ k : Nat, k ≤ a.length → 
    ok L.W (foldS a d a.length (upto (fun k => a.length - 1 - k) k)).1 ∧ (∀ j, j < a.length - k → (foldS a d a.length (upto (fun k => a.length - 1 - k) k)).1.getD j 0 = 0) ∧
    d * val L.W (foldS a d a.length (upto (fun k => a.length - 1 - k) k)).1 + L.W ^ (a.length - k) * (foldS a d a.length (upto (fun k => a.length - 1 - k) k)).2 + val L.W (a.take (a.length - k)) = val L.W a := by
  intro k
  induction k with
  | zero =>
    intro _
    refine ⟨?_, fun j _ => ?_, ?_⟩
    · simp only [upto, List.range_zero, List.map_nil, foldS, List.foldl_nil]; exact ok_zeros (by decide) _
    · simp [upto, foldS, List.getD, List.getElem?_replicate]; split <;> rfl
    · simp [upto, foldS, val_zeros]
  | succ k ih =>
    intro hk
    obtain ⟨h1, h2, h3⟩ := ih (by omega)
    have hrem := foldS_rem a hd0 a.length (upto (fun k => a.length - 1 - k) k)
    have hlen := foldS_len a d a.length (upto (fun k => a.length - 1 - k) k)
    rw [upto_succ, foldS_snoc]
    generalize foldS a d a.length (upto (fun k => a.length - 1 - k) k) = s at h1 h2 h3 hrem hlen ⊢
    obtain ⟨s, r⟩ := s
    simp only at h1 h2 h3 hrem hlen ⊢
    obtain ⟨q, hq⟩ : ∃ q, a.length - 1 - k = q := ⟨_, rfl⟩
    have hq1 : a.length - k = q + 1 := by omega
    have hq2 : a.length - (k + 1) = q := by omega
    rw [hq1] at h2 h3
    rw [hq, hq2]
    have hu := getD_ok (B := L.W) (by decide) oa q
    have hx : (a[q]?).getD 0 = a.getD q 0 := rfl
    simp only [stepS, hx]
    obtain ⟨u, hgu⟩ : ∃ u, a.getD q 0 = u := ⟨_, rfl⟩
    rw [hgu] at hu ⊢
    have hpow : L.W ^ (q + 1) = L.W ^ q * 4294967296 := Int.pow_succ _ _
    rw [val_take_succ, hpow] at h3
    obtain ⟨v, hv⟩ : ∃ v, (r * 4294967296 + u) / d = v := ⟨_, rfl⟩
    obtain ⟨m, hm⟩ : ∃ m, (r * 4294967296 + u) % d = m := ⟨_, rfl⟩
    have hdm : d * v + m = r * 4294967296 + u := by rw [← hv, ← hm]; exact Int.mul_ediv_add_emod _ _
    have hv0 : 0 ≤ v := by rw [← hv]; exact Int.ediv_nonneg (by omega) (by omega)
    have hv1 : v < 4294967296 := by
      rw [← hv]
      refine Int.ediv_lt_of_lt_mul hd0 ?_
      have : 4294967296 * (r + 1) ≤ 4294967296 * d := by omega
      simp only [L.W] at hu
      omega
    rw [hv, hm]
    refine ⟨ok_set h1 hv0 hv1, fun j hj => ?_, ?_⟩
    · rw [getD_set_ne (by omega)]; exact h2 j (by omega)
    · rw [val_set _ _ _ (by omega), h2 q (by omega), Int.sub_zero]
      have hg : a.getD q 0 = u := hgu
      rw [hg] at h3
      generalize L.W ^ q = p at h3 ⊢
      generalize val L.W s = V at h3 ⊢
      generalize val L.W (List.take q a) = T at h3 ⊢
      rw [← h3]
      have e : d * (V + p * v) + p * m = d * V + p * (d * v + m) := by
        rw [Int.mul_add, Int.mul_add, ← Int.mul_assoc d p v, ← Int.mul_assoc p d v, Int.mul_comm d p]
        omega
      rw [e, hdm, Int.mul_add, ← Int.mul_assoc, Int.mul_right_comm]
      omega
theorem foldS_end {a : List Int} {d : Int} (oa : ok L.W a) (hd0 : 0 < d) (hd1 : d < 4294967296) :
    trimL (foldS a d a.length (upto (fun k => a.length - 1 - k) a.length)).1 = dig 4294967296 (val L.W a / d).toNat ∧ (foldS a d a.length (upto (fun k => a.length - 1 - k) a.length)).2 = val L.W a % d := by
  obtain ⟨h1, _, h3⟩ := foldS_law oa hd0 hd1 a.length (Nat.le_refl _)
  have hrem := foldS_rem a hd0 a.length (upto (fun k => a.length - 1 - k) a.length)
  generalize foldS a d a.length (upto (fun k => a.length - 1 - k) a.length) = s at h1 h3 hrem ⊢
  obtain ⟨s, r⟩ := s
  simp only [Nat.sub_self, Int.pow_zero, Int.one_mul, List.take_zero, val_nil, Int.add_zero] at h1 h3 hrem ⊢
  have e1 : val L.W a / d = val L.W s := by
    rw [← h3, Int.add_comm, Int.add_mul_ediv_left _ _ (by omega), Int.ediv_eq_zero_of_lt hrem.1 hrem.2, Int.zero_add]
  have e2 : val L.W a % d = r := by
    rw [← h3, Int.add_comm, Int.add_mul_emod_self_left, Int.emod_eq_of_lt hrem.1 hrem.2]
  rw [e1, e2]
  exact ⟨trimL_eq_dig (B := 4294967296) (by decide) h1, rfl⟩

theorem fn_limbs_short_of (ht : FnOK Tryd.prog G 68 ⟨(.pair (.sl (.int .u32)) .unit), (.pair (.sl (.int .u32)) .unit), [], S.limbs_trim, none⟩) :
    FnOK Tryd.prog G 71 ⟨(.pair (.sl (.int .u32)) (.pair (.int .u32) .unit)), (.pair (.sl (.int .u32)) (.pair (.int .u32) .unit)), [], S.limbs_short, none⟩ := by
  refine ⟨⟨_, Tryd.func71, by kernel_rfl, by kernel_rfl⟩, ?_⟩
  show PlainOK _ _ _ _ _ _ _
  intro w S hS hgl x vs y hA hy
  obtain ⟨a0, d0, _⟩ := x
  obtain ⟨a, rfl⟩ : ∃ x : List Int, x = a0 := ⟨a0, rfl⟩
  obtain ⟨d, rfl⟩ : ∃ x : Int, x = d0 := ⟨d0, rfl⟩
  obtain ⟨cs1, vs1, rfl, ha, cs2, vs2, rfl, hb, h2⟩ := hA
  have h2 : vs2 = [] := h2
  have hb : cs2 = [.int .u32 d] := hb
  subst h2; subst hb
  have hy : (if fine a ∧ ok L.W a ∧ 0 < d ∧ d < L.W then some (dig 4294967296 (val L.W a / d).toNat, val L.W a % d, ()) else none) = some y := hy
  split at hy <;> cases hy
  rename_i hf
  obtain ⟨hfa, oa, hd0, hd1⟩ := hf
  unfold fine at hfa
  have ex1 : ∃ v, cs1 = [v] := by obtain ⟨A, c, he, _⟩ := ha; exact ⟨_, he⟩
  obtain ⟨v1, rfl⟩ := ex1
  obtain ⟨A1, c1, rfl, hD1⟩ := digs_of hS ha
  have hp : PlainOK Tryd.prog G 68 (.pair (.sl (.int .u32)) .unit) (.pair (.sl (.int .u32)) .unit) [] L.S.limbs_trim := ht.calls
  have hgl0 : ∀ W : World, Below w.heap.size w W → GlobOK Tryd.prog G W (fun b => S b) := fun W hB => hgl.mono (fun b hb => ⟨hb, hB.block b (hS b hb)⟩)
  have key : Calls Tryd.prog 71 #[.slice A1 a.length c1, .int .u32 d] w _ := callsIn_wide.1 (short_in Fence.wide 3 trivial trivial trivial trivial rfl (by decide) A1 c1 a.length a d ⟨rfl⟩ ⟨oa⟩ hd0 hd1 (by omega) w hD1 S hS ?htrim)
  case htrim =>
    intro W l b hB hl hb
    rw [callsIn_wide]
    have hbW : b < W.heap.size := (Array.getElem?_eq_some_iff.1 hb).1
    have hlies : Lies W ⟨b, 0, none⟩ (l.map (Value.int .u32)) := lies_row hb 0 (fun j v hj => by rw [Nat.zero_add]; simpa using hj)
    have hrep : RepA Tryd.prog (.pair (.sl (.int .u32)) .unit) W (fun b' => S b' ∨ b' = b) (l, ()) [.slice (some ⟨b, 0, none⟩) a.length a.length] :=
      ⟨[.slice (some ⟨b, 0, none⟩) a.length a.length], [], rfl, ⟨some ⟨b, 0, none⟩, a.length, by rw [hl], Nat.le_of_eq hl, .inr ⟨⟨b, 0, none⟩, _, rfl, .inr rfl, int_es l, hlies⟩⟩, rfl⟩
    have hsz := hB.size
    refine (hp W (fun b' => S b' ∨ b' = b) (fun b' h => h.elim (fun h => Nat.lt_of_lt_of_le (hS b' h) hsz) (fun h => h ▸ hbW)) ((hgl0 W hB).mono (fun b h => ⟨.inl h, rfl⟩)) (l, ()) _ (trimL l, ()) hrep (by
      show (if fine l then some (trimL l, ()) else none) = _
      rw [if_pos (by unfold fine; omega)])).mono ?_
    rintro e W' ⟨hb2, vs', G', rfl, hR, _⟩
    simp only [RepR] at hR
    obtain ⟨_, cs, vs2, rfl, hcs, h2, _⟩ := hR
    subst h2
    have ex : ∃ v', cs = [v'] := by obtain ⟨A, c, he, _⟩ := hcs; exact ⟨_, he⟩
    obtain ⟨v', rfl⟩ := ex
    exact ⟨v', rfl, hb2, RepD.mono (fun b' h => ⟨h.elim (fun h => h.elim .inl (fun h => .inr (.inl h))) (fun h => .inr (.inr ⟨h.1, h.2.1⟩)), rfl⟩) hcs⟩
  refine key.mono ?_
  rintro e w' ⟨v', rfl, hbel, hR⟩
  obtain ⟨e1, e2⟩ := foldS_end oa hd0 hd1
  rw [e1] at hR
  refine ⟨hbel, [v', .int .u32 (foldS a d a.length (upto (fun k => a.length - 1 - k) a.length)).2], [], rfl, ⟨rfl, [v'], _, rfl, RepD.mono (fun b hb => ⟨hb.imp id (fun hb => ⟨hb.1, hb.2, by simp⟩), rfl⟩) hR, rfl, [.int .u32 (foldS a d a.length (upto (fun k => a.length - 1 - k) a.length)).2], [], rfl, ?_, rfl, rfl⟩, List.nodup_nil⟩
  rw [e2]; rfl
end Go.L

/-! LLibIndexByte5 -/
namespace Go.Proofs
open Go.Shelf Go.RowKit
set_option maxRecDepth 100000
def Tryd.laysIndexByte_ren : Go.Shelf.Ren := ⟨fun | 217 => 91 | 266 => 99 | n => n, fun | 9 => 9 | 5 => 5 | 3 => 3 | n => n, fun | n => n⟩
theorem Tryd.laysIndexByte : Go.Proofs.Lays.n217 Tryd.prog Tryd.laysIndexByte_ren := {
  mixed := by kernel_rfl
  f217 := Tryd.func91.trans (congrArg some (by kernel_rfl))
  f266 := Tryd.func99.trans (congrArg some (by kernel_rfl))
  t3 := Tryd.underlying3
  a3 := Tryd.isAgg3
  z3 := Tryd.sizeOf3
  v3 := Tryd.zeroValue3
  t5 := Tryd.underlying5
  a5 := Tryd.isAgg5
  z5 := Tryd.sizeOf5
  v5 := Tryd.zeroValue5
  t9 := Tryd.underlying9
  a9 := Tryd.isAgg9
  z9 := Tryd.sizeOf9
  v9 := Tryd.zeroValue9 }
end Go.Proofs
namespace Go.L
open Go.PM Go.Proofs Go.RowKit
set_option maxRecDepth 100000
theorem idx_eq (c : UInt8) : ∀ l : List UInt8, Lib.indexByte l c = idxL l c
  | [] => rfl
  | b :: l => by rw [Lib.indexByte, idxL, idx_eq c l]
theorem fn_internal_stringslite_IndexByte : FnOK Tryd.prog G 91 ⟨(.pair .str (.pair (.int .u8) .unit)), (.pair (.int .i64) .unit), [], S.internal_stringslite_IndexByte, none⟩ := by
  refine ⟨⟨_, Tryd.func91, by kernel_rfl, by kernel_rfl⟩, ?_⟩
  show PlainOK _ _ _ _ _ _ _
  intro w S hS hgl x vs y hA hy
  obtain ⟨s0, n0, _⟩ := x
  obtain ⟨s, hs0⟩ : ∃ s : ByteArray, s = s0 := ⟨s0, rfl⟩
  obtain ⟨n, hn0⟩ : ∃ n : Int, n = n0 := ⟨n0, rfl⟩
  subst hs0; subst hn0
  obtain ⟨cs, v1, rfl, h1, cs2, v2, rfl, h2, h3⟩ := hA
  have h1 : cs = [.string s] := h1
  have h2 : cs2 = [.int .u8 n] := h2
  have h3 : v2 = [] := h3
  subst h1 h2 h3
  have hy : some (idxL s.data.toList n.toNat.toUInt8, ()) = some y := hy
  cases hy
  have hc := Any.stringslite_IndexByte Tryd.laysIndexByte s n w
  rw [show Tryd.laysIndexByte_ren.f 217 = 91 from rfl] at hc
  refine Calls.mono (P := Tryd.prog) (show Calls Tryd.prog 91 #[.string s, .int .u8 n] w _ from hc) ?_
  rintro e w' ⟨rfl, rfl⟩
  rw [idx_eq]
  exact ⟨Below.refl _ _, [.int .i64 (idxL s.data.toList n.toNat.toUInt8)], [], rfl, ⟨rfl, [.int .i64 (idxL s.data.toList n.toNat.toUInt8)], [], rfl, rfl, rfl, rfl⟩, List.nodup_nil⟩
end Go.L

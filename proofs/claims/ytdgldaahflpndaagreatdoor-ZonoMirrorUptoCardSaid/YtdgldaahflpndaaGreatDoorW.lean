/-
  the laws of sets: both ways round. the laws of sets: sums. the laws of sets: not much more. the laws of sets: not much more: the law. the laws of sets: tables.
  No condition beyond those that each theorem names.
-/
import Derived.Test.YtdgldaahflpndaaGreatDoorV

/-! DG -/
namespace Go.L
open Go.PM
set_option exponentiation.threshold 20000
set_option linter.unusedVariables false
set_option linter.unusedSimpArgs false

/-- The rows of a set. -/
def rowq (q0 : Nat → Rat) (q : Nat → Nat → Rat) : Nat → Nat → Rat
  | 0 => q0
  | k + 1 => q k
theorem rows_get {n m i : Nat} {q0 : Nat → Rat} {q : Nat → Nat → Rat} (hi : i < m + 1) : ([Rx n q0] ++ Vx m (fun k => Rx n (q k))).getD i [] = Rx n (rowq q0 q i) := by
  cases i with
  | zero => rfl
  | succ i =>
    have : ([Rx n q0] ++ Vx m (fun k => Rx n (q k))).getD (i + 1) [] = (Vx m (fun k => Rx n (q k))).getD i [] := by simp [List.getD_eq_getElem?_getD]
    rw [this, Vx_get (by omega)]; rfl
theorem thousand : S.ratio_Of (1000, 1, ()) = some (R 1000, ()) := by rw [ratio_Of_R (by decide) (by decide) (by decide) (by decide) (by decide)]; rfl
theorem sgq_no {a b : Rat} (h : ¬ 0 < sgq a b) : a ≤ b := by
  unfold sgq at h
  split at h
  · exact Rat.le_of_lt (by assumption)
  · split at h
    · exact absurd (by decide) h
    · exact Rat.not_lt.1 (by assumption)
/-- w16_small: one round of loop 1. -/
def w16_small_s1 (κ0 : (List (List RT)) → Int → Int → Option (Bool × Unit)) (κ1 : (List (List RT)) → Int → Int → (List RT) → Int → Int → Option (Bool × Unit)) (t14 : List (List RT)) (t15 : Int) (t16 : Int) (t20 : List RT) (t21 : Int) (t22 : Int) : Option (Bool × Unit) :=
  cond (decide (t22 < t21))
    (
      cond (decide (0 ≤ t22))
        (
          cond (decide (t22 < (t20.length : Int)))
            (
              let z3 := t20.getD t22.toNat ((false, ([], ())), ([], ()))
              (S.ratio_Abs (((z3.1.1, z3.1.2.1, ()), z3.2.1, ()), ())).bind fun z4 =>
              (S.ratio_Of (1000, 1, ())).bind fun z5 =>
              (S.ratio_Compare (((z4.1.1.1, z4.1.1.2.1, ()), z4.1.2.1, ()), ((z5.1.1.1, z5.1.1.2.1, ()), z5.1.2.1, ()), ())).bind fun z6 =>
              cond (decide (0 < z6.1)) (some (false, ())) (κ1 t14 t15 t16 t20 t21 (IntKind.i64.wrap (t22 + 1)))) none) none) (κ0 t14 t15 (IntKind.i64.wrap (t16 + 1)))

def w16_small_l1 (K : Nat) (κ0 : (List (List RT)) → Int → Int → Option (Bool × Unit)) : Nat → (List (List RT)) → Int → Int → (List RT) → Int → Int → Option (Bool × Unit)
  | 0, _, _, _, _, _, _ => none
  | n + 1, t14, t15, t16, t20, t21, t22 => w16_small_s1 κ0 (w16_small_l1 K κ0 n) t14 t15 t16 t20 t21 t22

/-- w16_small: one round of loop 0. -/
def w16_small_s0 (I1 : (List (List RT)) → Int → Int → (List RT) → Int → Int → Option (Bool × Unit)) (κ0 : (List (List RT)) → Int → Int → Option (Bool × Unit)) (t14 : List (List RT)) (t15 : Int) (t16 : Int) : Option (Bool × Unit) :=
  cond (decide (t16 < t15))
    (
      cond (decide (0 ≤ t16))
        (
          cond (decide (t16 < (t14.length : Int)))
            (
              let z2 := t14.getD t16.toNat []
              I1 t14 t15 t16 z2 (z2.length : Int) 0) none) none) (some (true, ()))

def w16_small_l0 (K : Nat) : Nat → (List (List RT)) → Int → Int → Option (Bool × Unit)
  | 0, _, _, _ => none
  | n + 1, t14, t15, t16 => w16_small_s0 (w16_small_l1 K (w16_small_l0 K n) K) (w16_small_l0 K n) t14 t15 t16

/-- girdlelaw16.small -/
def w16_small_b (I0 : (List (List RT)) → Int → Int → Option (Bool × Unit)) (z : ZR) : Option (Bool × Unit) :=
  cond (decide ((([z.1]).length + z.2.1.length) * 24 ≤ 140737488351232))
    (
      let z1 := ([z.1]) ++ z.2.1
      I0 z1 (z1.length : Int) 0) none

def w16_small (K : Nat) (z : ZR) : Option (Bool × Unit) := w16_small_b (w16_small_l0 K K) z

def S.w16_small (x : ZR × Unit) : Option (Bool × Unit) := L.w16_small 100 x.1
theorem w16_small_in {n m : Nat} {q0 : Nat → Rat} {q : Nat → Nat → Rat} (hn : n ≤ 16) (hm : m ≤ 16) (h0 : big1 n q0) (h : ∀ k < m, big1 n (q k)) : S.w16_small ((Rx n q0, Vx m (fun k => Rx n (q k)), ()), ()) = some (false, ()) ∨ (S.w16_small ((Rx n q0, Vx m (fun k => Rx n (q k)), ()), ()) = some (true, ()) ∧ (∀ i < n, qabs (q0 i) ≤ 1000) ∧ ∀ k < m, ∀ i < n, qabs (q k i) ≤ 1000) := by
  simp only [S.w16_small, L.w16_small, w16_small_b, Vx_len, List.length_singleton]
  have hls : ([Rx n q0] ++ Vx m (fun k => Rx n (q k))).length = m + 1 := by rw [List.length_append, List.length_singleton, Vx_len]; omega
  rw [ct (by omega), hls]
  have hrow := fun i (hi : i < m + 1) => rows_get (n := n) (q0 := q0) (q := q) hi
  have hb : ∀ i < m + 1, big1 n (rowq q0 q i) := fun i hi => by
    cases i with
    | zero => exact h0
    | succ i => exact h i (by omega)
  generalize [Rx n q0] ++ Vx m (fun k => Rx n (q k)) = ls at hrow hls ⊢
  rcases loop_or (m + 1) (fun _ => ()) (fun k s i => w16_small_l0 100 k ls ((m + 1 : Nat) : Int) i) (fun r => r = some (false, ())) (fun i => ∀ j < n, qabs (rowq q0 q i j) ≤ 1000) (fun k i hk hi => by
      simp only [w16_small_l0, w16_small_s0]
      rw [ct (by omega), ct (by omega), ct (by omega), Int.toNat_natCast, hrow i hi, Vx_len]
      rcases loop_or n (fun _ => ()) (fun k2 s j => w16_small_l1 100 (w16_small_l0 100 k) k2 ls ((m + 1 : Nat) : Int) (i : Int) (Rx n (rowq q0 q i)) (n : Int) j) (fun r => r = some (false, ())) (fun j => qabs (rowq q0 q i j) ≤ 1000) (fun k2 j hk2 hj => by
          simp only [w16_small_l1, w16_small_s1, Vx_len]
          have hbj := hb i hi j hj
          have a1 := ratio_Abs_R hbj (by decide)
          have cm := ratio_Compare_R (big_qabs hbj) (show big 1000 1 by unfold big; decide +kernel) (by decide)
          rw [ct (by omega), ct (by omega), ct (by omega), Int.toNat_natCast, Vx_get hj, show S.ratio_Abs _ = _ from a1, Option.bind_some, thousand, Option.bind_some, show S.ratio_Compare _ = _ from cm, Option.bind_some]
          by_cases hs : 0 < sgq (qabs (rowq q0 q i j)) 1000
          · right; rw [ct hs]
          · left; rw [cf hs, wi1 (by omega)]; exact ⟨rfl, sgq_no hs⟩) 100 (by omega) with hh | ⟨k2, e2, hh⟩
      · exact .inr hh
      left
      refine ⟨?_, hh⟩
      have e3 : w16_small_l1 100 (w16_small_l0 100 k) 100 ls ((m + 1 : Nat) : Int) (i : Int) (Rx n (rowq q0 q i)) (n : Int) 0 = _ := e2
      rw [e3]
      simp only [w16_small_l1, w16_small_s1]
      rw [cf (by omega), wi1 (by omega)]) 100 (by omega) with hh | ⟨k, e2, hh⟩
  · exact .inl hh
  right
  have e3 : w16_small_l0 100 100 ls ((m + 1 : Nat) : Int) 0 = _ := e2
  rw [e3]
  simp only [w16_small_l0, w16_small_s0]
  rw [cf (by omega)]
  exact ⟨rfl, hh 0 (by omega), fun k hk => hh (k + 1) (by omega)⟩
/-- What is kept of a set of ratios of a size of 1000 at most, with 60 bits. -/
theorem of_small {n m : Nat} {q0 : Nat → Rat} {q : Nat → Nat → Rat} {b : Nat} (hm : m ≤ 6) (hb : 60 ≤ b) (hb' : b ≤ 100) (h0 : big1 n q0) (h : ∀ k < m, big1 n (q k)) (s0 : ∀ i < n, qabs (q0 i) ≤ 1000) (s : ∀ k < m, ∀ i < n, qabs (q k i) ≤ 1000) :
    (∀ i < n, qabs (dv (oc q0 b i) oe - q0 i) ≤ 1 / 268435456 ∧ qabs (dv (oc q0 b i) oe) ≤ 2048) ∧ (∀ k < m, ∀ i < n, qabs (dv (og q b k i) oe - q k i) ≤ 1 / 268435456 ∧ qabs (dv (og q b k i) oe) ≤ 2048) ∧ ∀ i < n, 0 ≤ orr q0 q b m i ∧ dv (orr q0 q b m i) oe ≤ 7 / 67108864 := by
  have n0 := nrs_near (b := b) (B := 300) hb h0 (by omega) (fun j hj => Rat.le_trans (s0 j hj) (by decide +kernel))
  have nk : ∀ k < m, _ := fun k hk => nrs_near (b := b) (B := 300) hb (h k hk) (by omega) (fun j hj => Rat.le_trans (s k hk j hj) (by decide +kernel))
  have m0 := fun j (hj : j < n) => md_near (b := b) (f := nrs q0 b 300) hb (n0 j hj).1.1 (n0 j hj).1.2 (n0 j hj).2.1.1 (n0 j hj).2.1.2 (n0 j hj).2.2
  have mk := fun k (hk : k < m) j (hj : j < n) => md_near (b := b) (f := nrs (q k) b 300) hb (nk k hk j hj).1.1 (nk k hk j hj).1.2 (nk k hk j hj).2.1.1 (nk k hk j hj).2.1.2 (nk k hk j hj).2.2
  refine ⟨fun j hj => ⟨(m0 j hj).1, ?_⟩, fun k hk j hj => ⟨(mk k hk j hj).1, ?_⟩, fun j hj => ⟨zr_pos _ _ _ _ _ _, ?_⟩⟩
  · have a := (m0 j hj).1
    have c := s0 j hj
    have g1 := qabs_ge (q0 j)
    have g2 := qabs_ge (dv (oc q0 b j) oe - q0 j)
    exact qabs_le' (by grind) (by grind)
  · have a := (mk k hk j hj).1
    have c := s k hk j hj
    have g1 := qabs_ge (q k j)
    have g2 := qabs_ge (dv (og q b k j) oe - q k j)
    exact qabs_le' (by grind) (by grind)
  · have z := zr_near (e := oe) (b := b) (B := 300) (i := j) hb hm (m0 j hj).2 (fun k hk => (mk k hk j hj).2) m (Nat.le_refl _)
    have s1 := (sumC (a := 1 / 67108864) (by decide +kernel) m hm).2.1
    grind
theorem tenth : Yd 1 (-10) = Yd (2 ^ 591) (oe + -((300 : Nat) : Int)) ∧ dv (2 ^ 591) (oe + -((300 : Nat) : Int)) = 1 / 1024 := by
  constructor
  · have := Yd_scale 1 591 (oe + -((300 : Nat) : Int))
    rw [Int.one_mul] at this
    rw [this]; rfl
  · have := dv_scale 1 (oe + -((300 : Nat) : Int)) 591
    rw [Int.one_mul] at this
    rw [this]; decide +kernel
/-- girdlelaw16.ZonoMirror -/
def w16_ZonoMirror (z : ZR) (dir : List RT) : Option (Bool × Unit) :=
  (S.w16_spreads (())).bind fun z1 =>
  cond (!z1.1) (some (false, ()))
    (
      (S.w16_fit ((z.1, z.2.1, ()), (dir.length : Int), ())).bind fun z2 =>
      cond (!z2.1) (some (true, ()))
        (
          (S.w16_numbers (dir, (dir.length : Int), ())).bind fun z3 =>
          cond (!z3.1) (some (true, ()))
            (
              (S.zono_Of ((z.1, z.2.1, ()), 60, ())).bind fun z4 =>
              (S.vec_Near (dir, 60, ())).bind fun z5 =>
              (S.ratio_Of ((-1 : Int), 1, ())).bind fun z6 =>
              (S.vec_Scale (dir, ((z6.1.1.1, z6.1.1.2.1, ()), z6.1.2.1, ()), ())).bind fun z7 =>
              (S.vec_Near (z7.1, 60, ())).bind fun z8 =>
              (S.zono_Support ((z4.1.1, z4.1.2.1, z4.1.2.2.1, ()), z5.1, 60, ())).bind fun z9 =>
              (S.zono_Support ((z4.1.1, z4.1.2.1, z4.1.2.2.1, ()), z8.1, 60, ())).bind fun z10 =>
              (S.dyad_Add (((z9.1.1.1, z9.1.1.2.1, ()), z9.1.2.1, ()), ((z10.1.1.1, z10.1.1.2.1, ()), z10.1.2.1, ()), ())).bind fun z11 =>
              (S.zono_Box ((z4.1.1, z4.1.2.1, z4.1.2.2.1, ()), 60, ())).bind fun z12 =>
              (S.box_Support (z12.1, z5.1, 60, ())).bind fun z13 =>
              (S.dyad_Of (1, (-10 : Int), ())).bind fun z14 =>
              (S.dyad_Add (((z13.1.1.1, z13.1.1.2.1, ()), z13.1.2.1, ()), ((z14.1.1.1, z14.1.1.2.1, ()), z14.1.2.1, ()), ())).bind fun z15 =>
              cond (decide (z9.2.1 = 0))
                (
                  cond (decide (z10.2.1 = 0))
                    (
                      cond (decide (z11.2.1 = 0))
                        (
                          cond (decide (z12.2.1 = 0))
                            (
                              cond (decide (z13.2.1 = 0))
                                (
                                  (S.dyad_Sign (((z11.1.1.1, z11.1.1.2.1, ()), z11.1.2.1, ()), ())).bind fun z16 =>
                                  cond (decide (0 ≤ z16.1))
                                    (
                                      (S.w16_small ((z.1, z.2.1, ()), ())).bind fun z17 =>
                                      cond (!z17.1) (some (true, ()))
                                        (
                                          (S.w16_small ((dir, [], ()), ())).bind fun z18 =>
                                          cond (!z18.1) (some (true, ()))
                                            (
                                              (S.dyad_Less (((z15.1.1.1, z15.1.1.2.1, ()), z15.1.2.1, ()), ((z9.1.1.1, z9.1.1.2.1, ()), z9.1.2.1, ()), ())).bind fun z19 =>
                                              some (!z19.1, ())))) (some (false, ()))) (some (false, ()))) (some (false, ()))) (some (false, ()))) (some (false, ()))) (some (false, ())))))

theorem ZonoMirror_true {z : ZR} {dir : List RT} (hz : inZ z) (hd : ∀ d ∈ dir, inR d) : w16_ZonoMirror z dir = some (true, ()) := by
  unfold w16_ZonoMirror
  rw [w16_spreads_true, Option.bind_some]
  simp only [Bool.not_true, cond_false]
  generalize hN : dir.length = n
  rcases w16_fit_in (n := n) hz with e | ⟨e, n1, n4, m, q0, q, hm, rfl, b0, bk⟩
  · rw [e]; rfl
  rw [e, Option.bind_some]
  simp only [Bool.not_true, cond_false]
  rcases w16_numbers_in (n := n) (by omega) hd with e | ⟨e, qd, rfl, bd⟩
  · rw [e]; rfl
  rw [e, Option.bind_some]
  simp only [Bool.not_true, cond_false]
  obtain ⟨kc, kg, kr⟩ := of_bounds (b := 60) (show m ≤ 6 by omega) (by omega) (by omega) b0 bk
  have hr0 : ∀ i < n, 0 ≤ orr q0 q 60 m i := fun i _ => zr_pos _ _ _ _ _ _
  have z1 := of_set (b := 60) n4 (show m ≤ 6 by omega) (by omega) (by omega) b0 bk
  have v1 := vec_Near_nr (b := 60) (B := 300) (show n ≤ 16 by omega) bd (by decide) (by omega) (by omega) (by omega)
  have o1 : S.ratio_Of ((-1 : Int), 1, ()) = some (R (-1), ()) := by rw [ratio_Of_R (by decide) (by decide) (by decide) (by decide) (by decide)]; rfl
  have s1 := vec_Scale_R (t := -1) (show n ≤ 16 by omega) bd (show big (-1) 1 by unfold big; decide +kernel) (by decide)
  have bd2 : ∀ i < n, big (qd i * -1) 2 := fun i hi => big_mul (bd i hi) (show big (-1) 1 by unfold big; decide +kernel)
  have v2 := vec_Near_nr (b := 60) (B := 300) (q := fun i => qd i * -1) (show n ≤ 16 by omega) bd2 (by decide) (by omega) (by omega) (by omega)
  have D1 := nrs_small (b := 60) (B := 300) bd (by decide) (by omega) (by omega) (by decide)
  have D2 := nrs_small (b := 60) (B := 300) (q := fun i => qd i * -1) bd2 (by decide) (by omega) (by omega) (by decide)
  have sA := zono_Support_Dx (e := oe) (e' := -((300 : Nat) : Int)) (b := 60) (show n ≤ 16 by omega) (show m ≤ 16 by omega) kc kr kg D1 (by decide) (by decide) (by decide) (by decide) (by decide) (by decide) (by decide)
  have sB := zono_Support_Dx (e := oe) (e' := -((300 : Nat) : Int)) (b := 60) (show n ≤ 16 by omega) (show m ≤ 16 by omega) kc kr kg D2 (by decide) (by decide) (by decide) (by decide) (by decide) (by decide) (by decide)
  have z2 := zono_Box_Dx (e := oe) (b := 60) (show n ≤ 16 by omega) (show m ≤ 16 by omega) kc kr kg (by decide) (by decide) (by decide) (by decide) (by decide)
  have hbx := zbx_abs (b := 60) kc kr kg
  have hbx' : bb n (zbx (oc q0 60) (orr q0 q 60 m) (og q 60) 60 m) 45 := fun i hi => lt2_up (hbx i hi) (by omega)
  have sF := box_Support_Bx (e := oe) (e' := -((300 : Nat) : Int)) (b := 60) (show n ≤ 16 by omega) hbx' D1 (by decide) (by decide) (by decide) (by decide) (by decide) (by decide) (by decide)
  have bA := nA_up (zsup_abs (b := 60) kc kr kg D1) (show 33 + 17 + 1 + 4 * n + 2 * m ≤ 80 by omega)
  have bB := nA_up (zsup_abs (b := 60) kc kr kg D2) (show 33 + 17 + 1 + 4 * n + 2 * m ≤ 80 by omega)
  have bF := nA_up (inn_abs (b := 60) hbx' D1 n (Nat.le_refl _)).2 (show 45 + 17 + 1 + 2 * n ≤ 80 by omega)
  have nd := nrs_in (b := 60) (B := 300) bd (by omega)
  have nd2 := nrs_in (b := 60) (B := 300) (q := fun i => qd i * -1) bd2 (by omega)
  have geA := zsup_ge (b := 60) (c := oc q0 60) (g := og q 60) (m := m) (e := oe) hr0 nd
  have geB := zsup_ge (b := 60) (c := oc q0 60) (g := og q 60) (m := m) (e := oe) hr0 nd2
  -- the middle is a state
  have hM : Mem n m (fun i => dv (oc q0 60 i) oe) (fun i => dv (orr q0 q 60 m i) oe) (fun k i => dv (og q 60 k i) oe) (fun i => dv (oc q0 60 i) oe) := ⟨fun _ => 0, fun _ _ => (by show qabs 0 ≤ 1; decide +kernel), fun i hi => by
    have h0 : sumQ (fun k => (0 : Rat) * dv (og q 60 k i) oe) m = 0 := sumQ_zero fun k _ => by grind
    have h1 := (dv_le (e := oe)).2 (hr0 i hi)
    rw [dv_zero] at h1
    show qabs (dv (oc q0 60 i) oe - (dv (oc q0 60 i) oe + sumQ (fun k => (0 : Rat) * dv (og q 60 k i) oe) m)) ≤ _
    rw [h0]
    exact qabs_le' (by grind) (by grind)⟩
  have mA := Mem_Tq (q := qd) hM
  have mB := Mem_Tq (q := fun i => qd i * -1) hM
  have hneg : sumQ (fun i => dv (oc q0 60 i) oe * (qd i * -1)) n = -sumQ (fun i => dv (oc q0 60 i) oe * qd i) n := by
    rw [← sumQ_neg]; exact sumQ_congr fun i _ => by grind
  rw [show ((60 : Nat) : Int) = 60 from rfl] at z1 v1 v2 sA sB z2 sF
  rw [show S.zono_Of _ = _ from z1, Option.bind_some, show S.vec_Near _ = _ from v1, Option.bind_some, o1, Option.bind_some, show S.vec_Scale _ = _ from s1, Option.bind_some, show S.vec_Near _ = _ from v2, Option.bind_some, show S.zono_Support _ = _ from sA, Option.bind_some, show S.zono_Support _ = _ from sB, Option.bind_some]
  generalize hAA : zsup (oc q0 60) (orr q0 q 60 m) (og q 60) (nrs qd 60 300) 60 n m = A at *
  generalize hBB : zsup (oc q0 60) (orr q0 q 60 m) (og q 60) (nrs (fun i => qd i * -1) 60 300) 60 n m = B at *
  have a1 := dyad_Add_Yd (e := oe + -((300 : Nat) : Int)) bA bB (by decide) (by decide) (by decide)
  have hroom : 0 ≤ A + B := (dv_le (e := oe + -((300 : Nat) : Int))).1 (by rw [dv_zero, dv_add]; grind)
  have sg := dyad_Sign_Yd (A + B) (oe + -((300 : Nat) : Int))
  have d10 : S.dyad_Of (1, (-10 : Int), ()) = some (Yd (2 ^ 591) (oe + -((300 : Nat) : Int)), ()) := by rw [dyad_Of_one (by decide) (by decide), tenth.1]
  have b10 : ((2 : Int) ^ 591).natAbs < P 80 := by decide +kernel
  have a2 := dyad_Add_Yd (e := oe + -((300 : Nat) : Int)) bF b10 (by decide) (by decide) (by decide)
  rw [show S.dyad_Add _ = _ from a1, Option.bind_some, show S.zono_Box _ = _ from z2, Option.bind_some, show S.box_Support _ = _ from sF, Option.bind_some, d10, Option.bind_some, show S.dyad_Add _ = _ from a2, Option.bind_some]
  simp only [decide_true, cond_true]
  have hsg : 0 ≤ sgn (A + B) 0 := by have := sgn_neg0 (A + B) 0; omega
  rw [show S.dyad_Sign _ = _ from sg, Option.bind_some, ct hsg]
  rcases w16_small_in (show n ≤ 16 by omega) (show m ≤ 16 by omega) b0 bk with e | ⟨e, t0, tk⟩
  · rw [show S.w16_small _ = _ from e]; rfl
  rw [show S.w16_small _ = _ from e, Option.bind_some]
  simp only [Bool.not_true, cond_false]
  have sm := w16_small_in (m := 0) (q := fun _ _ => 0) (show n ≤ 16 by omega) (by decide) bd (fun k hk => by omega)
  rw [show Vx 0 (fun _ => Rx n (fun _ => (0 : Rat))) = ([] : List (List RT)) from rfl] at sm
  rcases sm with e | ⟨e, td, _⟩
  · rw [show S.w16_small _ = _ from e]; rfl
  rw [show S.w16_small _ = _ from e, Option.bind_some]
  simp only [Bool.not_true, cond_false]
  obtain ⟨oc1, og1, or1⟩ := of_small (b := 60) (show m ≤ 6 by omega) (by omega) (by omega) b0 bk t0 tk
  have nd' := nrs_near (b := 60) (B := 300) (by omega) bd (by omega) (fun j hj => Rat.le_trans (td j hj) (by decide +kernel))
  have leA := zsup_le (b := 60) (by omega) n4 (show m ≤ 6 by omega) (fun i hi => (oc1 i hi).2) (fun i hi => ⟨(or1 i hi).1, Rat.le_trans (or1 i hi).2 (by decide +kernel)⟩) (fun k hk i hi => (og1 k hk i hi).2) nd'
  rw [hAA] at leA
  have hge := fun i (hi : i < n) => zbx_ge (c := oc q0 60) (g := og q 60) (b := 60) (m := m) (e := oe) (hr0 i hi)
  have bs := bsup_ge (b := 60) (e := oe) (fun j hj => ⟨(hge j hj).1, (hge j hj).2, Sq_pos (hr0 j hj)⟩) nd
  have tt := Tq_le_Tb (c := fun i => dv (oc q0 60 i) oe) (r := fun i => dv (orr q0 q 60 m i) oe) (g := fun k i => dv (og q 60 k i) oe) (q := qd) (n := n) (m := m)
  have hle : A ≤ (inn (zbx (oc q0 60) (orr q0 q 60 m) (og q 60) 60 m) (nrs qd 60 300) 60 n).2 + 2 ^ 591 := (dv_le (e := oe + -((300 : Nat) : Int))).1 (by
    rw [dv_add, tenth.2]; grind)
  have bM := nA_add bF b10
  have ls := dyad_Less_Yd (e := oe + -((300 : Nat) : Int)) bM (nA_up bA (show 80 ≤ 80 + 1 by decide)) (by decide) (by decide) (by decide)
  rw [show S.dyad_Less _ = _ from ls, Option.bind_some, decide_eq_false (by omega)]
  rfl
end Go.L

/-! DH -/
namespace Go.L
open Go.PM
set_option exponentiation.threshold 20000
set_option linter.unusedVariables false
set_option linter.unusedSimpArgs false

end Go.L

/-! DI -/
namespace Go.L
open Go.PM
set_option exponentiation.threshold 20000
set_option linter.unusedVariables false
set_option linter.unusedSimpArgs false

end Go.L

/-! DJ -/
namespace Go.L
open Go.PM
set_option exponentiation.threshold 20000
set_option linter.unusedVariables false
set_option linter.unusedSimpArgs false

end Go.L

/-! DK -/
namespace Go.L
open Go.PM
set_option exponentiation.threshold 20000
set_option linter.unusedVariables false
set_option linter.unusedSimpArgs false

end Go.L

/-
  series.Make, whole. The law: place by place e to the power of each. The law, whole.
  No condition beyond those that each theorem names.
-/
import Derived.Test.YtdadepdcllachaaGreatDoorY

/-! EH -/
namespace Go.L
open Go.PM
set_option exponentiation.threshold 20000
set_option linter.unusedVariables false
set_option linter.unusedSimpArgs false

theorem hlf_div (n : Nat) : Rat.divInt 1 (2 ^ n) = hlf n := by rw [Rat.divInt_eq_div]; rfl
theorem two_le16 {n : Nat} (h : n ≤ 4) : 1 ≤ 2 ^ n ∧ 2 ^ n ≤ 16 := ⟨Nat.pow_pos (by decide), by have := Nat.pow_le_pow_right (show 0 < 2 by decide) h; omega⟩
theorem hlf_le1 (n : Nat) : hlf n ≤ 1 := by
  have h1 := hlf_mul n
  have h2 := hlf_pos n
  have h3 : (1 : Rat) ≤ ((2 ^ n : Int) : Rat) := by have := Rat.intCast_le_intCast.2 (show (1 : Int) ≤ 2 ^ n by have := two_pos n; omega); exact this
  have h4 := Rat.mul_le_mul_of_nonneg_left h3 h2
  grind
theorem small_pre {R' : Type} {n : Nat} (hn : n ≤ 4) (k : RT × Int × Unit → Option R') :
    ((S.limbs_Of (1, ())).bind fun z1 => (S.limbs_Left (z1.1, (n : Int), ())).bind fun z2 => (S.whole_Of (1, ())).bind fun z3 => (S.whole_Nat (z2.1, ())).bind fun z4 => (S.ratio_Make ((z3.1.1, z3.1.2.1, ()), (z4.1.1, z4.1.2.1, ()), ())).bind k) = k (R (hlf n), 0, ()) := by
  obtain ⟨p1, p2⟩ := two_le16 hn
  have hP : 2 ^ n < P 512 := two_P (by omega)
  have hP1 : 2 ^ n < P 1000 := two_P (by omega)
  have e1 := Left_D (a := 1) (n := n) (by decide)
  rw [if_neg (by decide), if_neg (by omega), Nat.one_mul] at e1
  have e2 : res (2 ^ n) = (D (2 ^ n), 0, ()) := res_in hP
  have e3 := Make_R (n := 1) (d := ((2 ^ n : Nat) : Int)) (by decide) (by rw [Int.natAbs_natCast]; exact hP) (by omega)
  have e4 : Rat.divInt 1 ((2 ^ n : Nat) : Int) = hlf n := by rw [Int.natCast_pow]; exact hlf_div n
  rw [e4] at e3
  rw [Of_one, Option.bind_some, e1, Option.bind_some, e2, whole_Of_I (by decide) (by decide), Option.bind_some, whole_Nat_D hP1, Option.bind_some, show S.ratio_Make _ = _ from e3, Option.bind_some]
theorem big_hlf {m : Rat} {j k : Nat} (hm : big m j) (hk : k ≤ 4) : big (m * hlf k) (j + 1) := big_mul hm (hlf_big k hk)
theorem small_T {n k : Nat} {m : Nat → Rat} {t : Rat} (hk : k ≤ 4) (hs : Small n (fun i => m i * hlf k)) (hm : ∀ i < n, big (m i) 2) (h0 : 0 ≤ t) (h1 : t ≤ ((2 ^ 32 : Int) : Rat)) (hb : big t 1) :
    S.series_small (Vx n (fun i => Rx n (dq m i)), R t, (k : Int), 50, ()) = some ((Tx n (eA (fun i => m i * hlf k) n) (-110), Tx n (scl (eC (fun i => m i * hlf k) n) (tn (t * hlf k))) (-225), ()), 0, ()) := by
  have hn3 := hs.n3
  have e1 : S.mat_Scale (Vx n (fun i => Rx n (dq m i)), R (hlf k), ()) = some (Vx n (fun i => Rx n (dq (fun i => m i * hlf k) i)), 0, ()) := by
    have := Scale_V (a := fun i => Rx n (dq m i)) (c := fun i => Rx n (fun j => dq m i j * hlf k)) (t := R (hlf k)) (n := n) (by omega) fun i hi => vec_Scale_R (j := 2) (k := 1) (by omega) (fun j _ => dq_big (by decide) hm hi j) (hlf_big k hk) (by decide)
    rw [this]
    congr 2
    exact Vx_congr fun i _ => Vx_congr fun j _ => congrArg (fun q => R q) (dq_scl (p := m) (q := hlf k) (i := i) (j := j))
  have e2 := ratio_Mul_R hb (hlf_big k hk) (by decide)
  have e3 := Near_X hn3 hs.big
  have ht : t * hlf k ≤ ((2 ^ 32 : Int) : Rat) := by
    have := Rat.mul_le_mul_of_nonneg_left (hlf_le1 k) h0
    grind
  have e4 := sums_T hs (mul_nn h0 (hlf_pos k)) ht ((big_hlf hb hk).mono (by decide))
  simp only [S.series_small, L.series_small]
  rw [small_pre hk]
  simp only [decide_true, Bool.not_true, cond_false]
  rw [show S.mat_Scale _ = _ from e1, Option.bind_some]
  simp only [decide_true, Bool.not_true, cond_false]
  rw [show S.ratio_Mul _ = _ from e2, Option.bind_some]
  simp only [decide_true, Bool.not_true, cond_false]
  rw [show S.mat_Near _ = _ from e3, Option.bind_some]
  simp only [decide_true, Bool.not_true, cond_false]
  rw [terms_50, Option.bind_some, show S.series_sums _ = _ from e4, Option.bind_some]

/-- The tables after so many doublings. -/
def dbE (n : Nat) (E0 : Nat → Nat → Int × Int) : Nat → Nat → Nat → Int × Int
  | 0 => E0
  | r + 1 => tms (dbE n E0 r) (dbE n E0 r) n
def dbC (n : Nat) (E0 C0 : Nat → Nat → Int × Int) : Nat → Nat → Nat → Int × Int
  | 0 => C0
  | r + 1 => pst (rg (110 * 2 ^ r) (dbC n E0 C0 r)) (tms (dbE n E0 r) (dbC n E0 C0 r) n)
abbrev gE (r : Nat) : Int := -((110 * 2 ^ r : Nat) : Int)
theorem doubled {n M : Nat} {E0 C0 : Nat → Nat → Int × Int} {z : Nat → Rat} {c : Rat} (hn1 : 1 ≤ n) (hn : n ≤ 3) (hE : Tab n E0 (-110) 196 (dq (fun i => (1 + z i) ^ M))) (hC : Tab n C0 (-225) 345 (dq (fun i => geo (z i) M * c))) :
    ∀ r ≤ 4, (Tab n (dbE n E0 r) (gE r) (199 * 2 ^ r - 3) (dq (fun i => (1 + z i) ^ (2 ^ r * M))) ∧ Tab n (dbC n E0 C0 r) (gE r - 115) (146 + 199 * 2 ^ r + r) (dq (fun i => geo (z i) (2 ^ r * M) * c))) ∧
      (r < 4 → S.series_Twice ((Tx n (dbE n E0 r) (gE r), Tx n (dbC n E0 C0 r) (gE r - 115), ()), 50, ()) = some ((Tx n (dbE n E0 (r + 1)) (gE (r + 1)), Tx n (dbC n E0 C0 (r + 1)) (gE (r + 1) - 115), ()), 0, ())) := by
  have step : ∀ r < 4, (Tab n (dbE n E0 r) (gE r) (199 * 2 ^ r - 3) (dq (fun i => (1 + z i) ^ (2 ^ r * M))) ∧ Tab n (dbC n E0 C0 r) (gE r - 115) (146 + 199 * 2 ^ r + r) (dq (fun i => geo (z i) (2 ^ r * M) * c))) →
      S.series_Twice ((Tx n (dbE n E0 r) (gE r), Tx n (dbC n E0 C0 r) (gE r - 115), ()), 50, ()) = some ((Tx n (dbE n E0 (r + 1)) (gE (r + 1)), Tx n (dbC n E0 C0 (r + 1)) (gE (r + 1) - 115), ()), 0, ()) ∧
      (Tab n (dbE n E0 (r + 1)) (gE (r + 1)) (199 * 2 ^ (r + 1) - 3) (dq (fun i => (1 + z i) ^ (2 ^ (r + 1) * M))) ∧ Tab n (dbC n E0 C0 (r + 1)) (gE (r + 1) - 115) (146 + 199 * 2 ^ (r + 1) + (r + 1)) (dq (fun i => geo (z i) (2 ^ (r + 1) * M) * c))) := by
    intro r hr h
    have hw : 1 ≤ 2 ^ r ∧ 2 ^ r ≤ 8 := ⟨Nat.pow_pos (by decide), by have := Nat.pow_le_pow_right (show 0 < 2 by decide) (show r ≤ 3 by omega); omega⟩
    have e2 : 2 ^ (r + 1) = 2 ^ r * 2 := Nat.pow_succ ..
    obtain ⟨a, b, d⟩ := Twice_T (k := 110 * 2 ^ r) hn1 hn h.1 h.2 (by simp only [gE]; omega) (by omega) (by omega) (by omega) (by simp only [gE]; omega) (by simp only [gE]; omega) (by simp only [gE]; omega)
    have g1 : gE r + gE r = gE (r + 1) := by simp only [gE]; omega
    have g2 : gE r + (gE r - 115) = gE (r + 1) - 115 := by simp only [gE]; omega
    rw [g1, g2] at a
    rw [g1] at b
    rw [g2] at d
    have em : 2 ^ (r + 1) * M = 2 * (2 ^ r * M) := by rw [e2, Nat.mul_comm (2 ^ r) 2, Nat.mul_assoc]
    refine ⟨a, (b.up (by omega)).congr fun i hi j hj => ?_, (d.up (by omega)).congr fun i hi j hj => ?_⟩
    · simp only [dq, em, pow_two_]
    · simp only [dq, em, geo_two]
      split
      · grind
      · rfl
  have all : ∀ r ≤ 4, Tab n (dbE n E0 r) (gE r) (199 * 2 ^ r - 3) (dq (fun i => (1 + z i) ^ (2 ^ r * M))) ∧ Tab n (dbC n E0 C0 r) (gE r - 115) (146 + 199 * 2 ^ r + r) (dq (fun i => geo (z i) (2 ^ r * M) * c)) := by
    intro r
    induction r with
    | zero =>
      intro _
      refine ⟨hE.congr fun i hi j hj => ?_, hC.congr fun i hi j hj => ?_⟩
      · simp only [Nat.pow_zero, Nat.one_mul]
      · simp only [Nat.pow_zero, Nat.one_mul]
    | succ r ih => intro hr; exact (step r (by omega) (ih (by omega))).2
  exact fun r hr => ⟨all r hr, fun h => (step r h (all r hr)).1⟩

/-- A span holds a ratio, and is not out of all bounds. -/
def Hq (s : SP) (q : Rat) : Prop := ∃ l h : Int, s = Sp l h (-2000) ∧ lt2 l h 120 ∧ dv l (-2000) ≤ q ∧ q ≤ dv h (-2000)
theorem Hq_of {z : Int × Int} {e : Int} {q : Rat} {t k : Nat} (h : sb z t) (hq : hs z e q) (he : -2000 + (k : Int) = e) (hk : t + k ≤ 3600) : Hq (Sp z.1 z.2 e) q := by
  refine ⟨z.1 * 2 ^ k, z.2 * 2 ^ k, ?_, ⟨?_, ?_⟩, ?_, ?_⟩
  · simp only [Sp, Yd_scale, he]
  · exact two_lt_P (mul_two h.1 (by rw [natAbs_two]; exact Nat.le_refl _)) (by omega)
  · exact two_lt_P (mul_two h.2 (by rw [natAbs_two]; exact Nat.le_refl _)) (by omega)
  · rw [dv_scale, he]; exact hq.1
  · rw [dv_scale, he]; exact hq.2
theorem Make_T {n N : Nat} {a : Nat → Rat} {t : Rat} (hN : N = 2 ^ 100) (hn1 : 1 ≤ n) (hn : n ≤ 3) (ha : ∀ i < n, big (a i) 2) (ha0 : ∀ i < n, 0 ≤ a i) (ht : big t 1) (ht0 : 0 ≤ t) (ht1 : t ≤ ((2 ^ 32 : Int) : Rat)) (hm : ∀ i < n, big (a i * t) 2) (h8 : ∀ i < n, a i * t ≤ 8) :
    ∃ TE TC : Nat → Nat → SP, S.series_Make (Vx n (fun i => Rx n (dq a i)), R t, 50, ()) = some ((Vx n (fun i => Vx n (TE i)), Vx n (fun i => Vx n (TC i)), ()), 0, ()) ∧
      ∀ i < n, ∀ j < n, Hq (TE i j) (dq (fun i => (1 + a i * t / N) ^ N) i j) ∧ Hq (TC i j) (dq (fun i => geo (a i * t / N) N * (t / N)) i j) := by
  have hm0 : ∀ i < n, 0 ≤ a i * t := fun i hi => mul_nn (ha0 i hi) ht0
  have e1 := ratio_Sign_R t
  have e2 := mCheck_R (n := n) (a := dq a) (by omega) fun i hi j hj => (dq_big (k := 2) (by decide) ha hi j).mono (by decide)
  have e3 : S.mat_Scale (Vx n (fun i => Rx n (dq a i)), R t, ()) = some (Vx n (fun i => Rx n (dq (fun i => a i * t) i)), 0, ()) := by
    have := Scale_V (a := fun i => Rx n (dq a i)) (c := fun i => Rx n (fun j => dq a i j * t)) (t := R t) (n := n) (by omega) fun i hi => vec_Scale_R (j := 2) (k := 1) (by omega) (fun j _ => dq_big (by decide) ha hi j) ht (by decide)
    rw [this]
    congr 2
    exact Vx_congr fun i _ => Vx_congr fun j _ => congrArg (fun q => R q) (dq_scl (p := a) (q := t) (i := i) (j := j))
  have e4 := norm_T (m := fun i => a i * t) hn (j := 2) (by decide) (by decide) hm0 hm
  obtain ⟨k, hk, e5, h5⟩ := halves_T (mxq_pos (m := fun i => a i * t) n) (mxq_le (m := fun i => a i * t) (by decide) n h8) ((mxq_big (j := 2) (by decide) n hm).mono (by decide))
  have hs : Small n (fun i => a i * t * hlf k) := ⟨hn1, hn, fun i hi => big_hlf (hm i hi) hk, fun i hi => mul_nn (hm0 i hi) (hlf_pos k), fun i hi => by
    have := Rat.mul_le_mul_of_nonneg_right (mxq_ge (m := fun i => a i * t) n i hi) (hlf_pos k)
    exact Rat.le_trans this h5⟩
  have e6 := small_T (m := fun i => a i * t) hk hs hm ht0 ht1 ht
  -- the steps
  obtain ⟨M, hM⟩ : ∃ M : Nat, M = 2 ^ (100 - k) := ⟨_, rfl⟩
  have hM70 : 2 ^ 70 ≤ M := by rw [hM]; exact Nat.pow_le_pow_right (by decide) (by omega)
  have hMN : 2 ^ k * M = N := by rw [hM, hN, ← Nat.pow_add, show k + (100 - k) = 100 by omega]
  have hM0 : (0 : Rat) < (M : Rat) := by have := Rat.natCast_lt_natCast.2 (show 0 < M from Nat.lt_of_lt_of_le (Nat.pow_pos (by decide)) hM70); exact this
  have hNr : (N : Rat) = ((2 ^ k : Int) : Rat) * M := by
    rw [← hMN, Rat.natCast_mul, Rat.natCast_pow, Rat.intCast_pow]; rfl
  have hN0 : (0 : Rat) < (N : Rat) := by
    rw [hNr]; exact Rat.mul_pos (by have := Rat.intCast_lt_intCast.2 (two_pos k); exact this) hM0
  have hdiv : ∀ y : Rat, y * hlf k / M = y / N := by
    intro y
    have h1 := hlf_mul k
    have h2 : y * hlf k / M * M = y * hlf k := Rat.div_mul_cancel (by grind)
    have h3 : y / N * N = y := Rat.div_mul_cancel (by grind)
    have key : y * hlf k / M * N = y / N * N := by
      rw [h3, hNr]
      have : y * hlf k / M * (((2 ^ k : Int) : Rat) * M) = y * hlf k / M * M * ((2 ^ k : Int) : Rat) := by grind
      rw [this, h2, Rat.mul_assoc, h1, Rat.mul_one]
    exact Rat.le_antisymm (le_of_mul hN0 (by rw [key]; exact Rat.le_refl)) (le_of_mul hN0 (by rw [key]; exact Rat.le_refl))
  have hz : ∀ i < n, (sumQ (wt 0 (a i * t * hlf k)) 15 - 1 / 18014398509481984 ≤ (1 + a i * t / N) ^ M ∧ (1 + a i * t / N) ^ M ≤ sumQ (wt 0 (a i * t * hlf k)) 15 + 1 / 18014398509481984) ∧
      (sumQ (wt 1 (a i * t * hlf k)) 15 - 1 / 18014398509481984 ≤ geo (a i * t / N) M / M ∧ geo (a i * t / N) M / M ≤ sumQ (wt 1 (a i * t * hlf k)) 15 + 1 / 18014398509481984) := fun i hi => by
    have := expo_near hM70 (hs.pos i hi) (hs.half i hi)
    simp only [hdiv] at this
    exact this
  have tA := (eA_tab hs).2 (fun i => (1 + a i * t / N) ^ M) (fun i hi => (hz i hi).1)
  have tC0 := (eC_tab hs).2 (fun i => geo (a i * t / N) M / M) (fun i hi => (hz i hi).2)
  obtain ⟨u1, u2, _⟩ := tn_sb (mul_nn ht0 (hlf_pos k)) (show t * hlf k ≤ _ by have := Rat.mul_le_mul_of_nonneg_left (hlf_le1 k) ht0; grind) ((big_hlf ht hk).mono (by decide))
  have tC1 := (tC0.scl u1 u2).congr (Q' := dq (fun i => geo (a i * t / N) M * (t / N))) fun i hi j hj => by
    rw [dq_scl]
    simp only [dq]
    split
    · have := hdiv t
      rw [← this, Rat.div_def, Rat.div_def]; grind
    · rfl
  have dbl := doubled (z := fun i => a i * t / N) (c := t / N) hn1 hn tA (show Tab n _ (-225) 345 _ from tC1)
  have e7 := loop_up k (fun r => (Tx n (dbE n (eA (fun i => a i * t * hlf k) n) r) (gE r), Tx n (dbC n (eA (fun i => a i * t * hlf k) n) (scl (eC (fun i => a i * t * hlf k) n) (tn (t * hlf k))) r) (gE r - 115)))
    (fun q s i => series_Make_l0 100 q 50 [] [] 0 s.1 s.2 (k : Int) i)
    (some ((Tx n (dbE n (eA (fun i => a i * t * hlf k) n) k) (gE k), Tx n (dbC n (eA (fun i => a i * t * hlf k) n) (scl (eC (fun i => a i * t * hlf k) n) (tn (t * hlf k))) k) (gE k - 115), ()), 0, ())) (fun q r hr => ?_) (fun q => ?_) 100 (by omega)
  · have hw := two_le16 hk
    obtain ⟨b1, b2⟩ := (dbl k hk).1
    rw [hMN] at b1 b2
    refine ⟨fun i j => Sp (dbE n (eA (fun i => a i * t * hlf k) n) k i j).1 (dbE n (eA (fun i => a i * t * hlf k) n) k i j).2 (gE k), fun i j => Sp (dbC n (eA (fun i => a i * t * hlf k) n) (scl (eC (fun i => a i * t * hlf k) n) (tn (t * hlf k))) k i j).1 (dbC n (eA (fun i => a i * t * hlf k) n) (scl (eC (fun i => a i * t * hlf k) n) (tn (t * hlf k))) k i j).2 (gE k - 115), ?_, fun i hi j hj => ⟨?_, ?_⟩⟩
    · simp only [S.series_Make, L.series_Make, series_Make_b, Vx_len]
      rw [cf (by decide), cf (by decide), show S.ratio_Sign _ = _ from e1, Option.bind_some]
      rw [cf (by have := num_nn ht0; rcases Int.lt_or_eq_of_le this with h | h; rw [sgn_gt h]; decide; rw [← h, sgn_self]; decide)]
      rw [e2, Option.bind_some]
      simp only [decide_true, Bool.not_true, cond_false]
      rw [show S.mat_Scale _ = _ from e3, Option.bind_some]
      simp only [decide_true, Bool.not_true, cond_false]
      rw [e4, Option.bind_some]
      simp only [decide_true, Bool.not_true, cond_false]
      rw [show S.series_halves _ = _ from e5, Option.bind_some]
      simp only [decide_true, Bool.not_true, cond_false]
      rw [show S.series_small _ = _ from e6, Option.bind_some]
      exact e7
    · exact Hq_of (k := 2000 - 110 * 2 ^ k) (b1.bits i hi j hj) (b1.holds i hi j hj) (by simp only [gE]; omega) (by omega)
    · exact Hq_of (k := 2000 - 115 - 110 * 2 ^ k) (b2.bits i hi j hj) (b2.holds i hi j hj) (by simp only [gE]; omega) (by omega)
  · simp only [series_Make_l0, series_Make_s0]
    rw [ct (by omega)]
    simp only [decide_true, Bool.not_true, cond_false]
    rw [show S.series_Twice _ = _ from (dbl r (by omega)).2 (by omega), Option.bind_some, wi1 (by omega)]
  · simp only [series_Make_l0, series_Make_s0]
    rw [cf (by omega)]
end Go.L

/-! EI -/
namespace Go.L
open Go.PM
set_option exponentiation.threshold 20000
set_option linter.unusedVariables false
set_option linter.unusedSimpArgs false
set_option maxRecDepth 100000
/-- girdletop_WholePowers: one round of loop 2. -/
def girdletop_WholePowers_s2 (κ0 : (List RT) → Bool → (List Int) → (List Int) → (List (List SP)) → (List (List SP)) → (List (List RT)) → (List RT) → Int → Int → Option (Bool × Unit)) (κ1 : (List RT) → Bool → (List Int) → (List Int) → (List (List SP)) → (List (List SP)) → Bool → (List Int) → Int → Bool → (List Int) → Int → (List RT) → Int → Int → Option (Bool × Unit)) (κ2 : (List RT) → Bool → (List Int) → (List Int) → (List (List SP)) → (List (List SP)) → Bool → (List Int) → Int → Bool → (List Int) → Int → Int → (List RT) → Int → Int → Int → Int → Option (Bool × Unit)) (list : List RT) (t_0 : Bool) (t_1 : List Int) (t_2 : List Int) (p_0 : List (List SP)) (p_1 : List (List SP)) (near_0 : Bool) (near_1 : List Int) (near_2 : Int) (near_3 : Bool) (near_4 : List Int) (near_5 : Int) (i : Int) (t160 : List RT) (t161 : Int) (t162 : Int) (t234 : Int) (t235 : Int) : Option (Bool × Unit) :=
  cond (decide (t235 < t234))
   (
   cond (decide (0 ≤ i))
   (
   cond (decide (i < (p_0.length : Int)))
   (
   let z31 := p_0.getD i.toNat []
   cond (decide (0 ≤ t235))
   (
   cond (decide (t235 < (z31.length : Int)))
   (
   let z32 := z31.getD t235.toNat (((false, ([], ())), (0, ())), (((false, ([], ())), (0, ())), ()))
   (S.ratio_Zero (())).bind fun z33 =>
   (S.span_HasRatio ((((z32.1.1.1, z32.1.1.2.1, ()), z32.1.2.1, ()), ((z32.2.1.1.1, z32.2.1.1.2.1, ()), z32.2.1.2.1, ()), ()), ((z33.1.1.1, z33.1.1.2.1, ()), z33.1.2.1, ()), ())).bind fun z34 =>
   cond (!(decide (t235 = i)))
   (
   cond (!z34.1) (some (false, ()))
   (
   κ2 list t_0 t_1 t_2 p_0 p_1 near_0 near_1 near_2 near_3 near_4 near_5 i t160 t161 t162 t234 (IntKind.i64.wrap (t235 + 1))))
   (
   κ2 list t_0 t_1 t_2 p_0 p_1 near_0 near_1 near_2 near_3 near_4 near_5 i t160 t161 t162 t234 (IntKind.i64.wrap (t235 + 1)))) none) none) none) none)
   (
   κ1 list t_0 t_1 t_2 p_0 p_1 near_0 near_1 near_2 near_3 near_4 near_5 t160 t161 (IntKind.i64.wrap (t162 + 1)))

def girdletop_WholePowers_l2 (K : Nat) (κ0 : (List RT) → Bool → (List Int) → (List Int) → (List (List SP)) → (List (List SP)) → (List (List RT)) → (List RT) → Int → Int → Option (Bool × Unit)) (κ1 : (List RT) → Bool → (List Int) → (List Int) → (List (List SP)) → (List (List SP)) → Bool → (List Int) → Int → Bool → (List Int) → Int → (List RT) → Int → Int → Option (Bool × Unit)) : Nat → (List RT) → Bool → (List Int) → (List Int) → (List (List SP)) → (List (List SP)) → Bool → (List Int) → Int → Bool → (List Int) → Int → Int → (List RT) → Int → Int → Int → Int → Option (Bool × Unit)
  | 0, _, _, _, _, _, _, _, _, _, _, _, _, _, _, _, _, _, _ => none
  | n + 1, list, t_0, t_1, t_2, p_0, p_1, near_0, near_1, near_2, near_3, near_4, near_5, i, t160, t161, t162, t234, t235 => girdletop_WholePowers_s2 κ0 κ1 (girdletop_WholePowers_l2 K κ0 κ1 n) list t_0 t_1 t_2 p_0 p_1 near_0 near_1 near_2 near_3 near_4 near_5 i t160 t161 t162 t234 t235

/-- girdletop_WholePowers: one round of loop 1. -/
def girdletop_WholePowers_s1 (I2 : (List RT) → Bool → (List Int) → (List Int) → (List (List SP)) → (List (List SP)) → Bool → (List Int) → Int → Bool → (List Int) → Int → Int → (List RT) → Int → Int → Int → Int → Option (Bool × Unit)) (κ0 : (List RT) → Bool → (List Int) → (List Int) → (List (List SP)) → (List (List SP)) → (List (List RT)) → (List RT) → Int → Int → Option (Bool × Unit)) (κ1 : (List RT) → Bool → (List Int) → (List Int) → (List (List SP)) → (List (List SP)) → Bool → (List Int) → Int → Bool → (List Int) → Int → (List RT) → Int → Int → Option (Bool × Unit)) (list : List RT) (t_0 : Bool) (t_1 : List Int) (t_2 : List Int) (p_0 : List (List SP)) (p_1 : List (List SP)) (near_0 : Bool) (near_1 : List Int) (near_2 : Int) (near_3 : Bool) (near_4 : List Int) (near_5 : Int) (t160 : List RT) (t161 : Int) (t162 : Int) : Option (Bool × Unit) :=
  cond (decide (t162 < t161))
   (
   cond (decide (0 ≤ t162))
   (
   cond (decide (t162 < (t160.length : Int)))
   (
   let z20 := t160.getD t162.toNat ((false, ([], ())), ([], ()))
   (S.ratio_Mul (((z20.1.1, z20.1.2.1, ()), z20.2.1, ()), ((t_0, t_1, ()), t_2, ()), ())).bind fun z21 =>
   (S.grow_Exp (((z21.1.1.1, z21.1.1.2.1, ()), z21.1.2.1, ()), 50, ())).bind fun z22 =>
   (S.grow_One (((z21.1.1.1, z21.1.1.2.1, ()), z21.1.2.1, ()), 50, ())).bind fun z23 =>
   (S.span_Mul ((((z23.1.1.1.1, z23.1.1.1.2.1, ()), z23.1.1.2.1, ()), ((z23.1.2.1.1.1, z23.1.2.1.1.2.1, ()), z23.1.2.1.2.1, ()), ()), (((near_0, near_1, ()), near_2, ()), ((near_3, near_4, ()), near_5, ()), ()), 50, ())).bind fun z24 =>
   cond (decide (0 ≤ t162))
   (
   cond (decide (t162 < (p_0.length : Int)))
   (
   let z25 := p_0.getD t162.toNat []
   cond (decide (0 ≤ t162))
   (
   cond (decide (t162 < (z25.length : Int)))
   (
   let z26 := z25.getD t162.toNat (((false, ([], ())), (0, ())), (((false, ([], ())), (0, ())), ()))
   (S.span_Meet ((((z26.1.1.1, z26.1.1.2.1, ()), z26.1.2.1, ()), ((z26.2.1.1.1, z26.2.1.1.2.1, ()), z26.2.1.2.1, ()), ()), (((z22.1.1.1.1, z22.1.1.1.2.1, ()), z22.1.1.2.1, ()), ((z22.1.2.1.1.1, z22.1.2.1.1.2.1, ()), z22.1.2.1.2.1, ()), ()), ())).bind fun z27 =>
   cond (decide (0 ≤ t162))
   (
   cond (decide (t162 < (p_1.length : Int)))
   (
   let z28 := p_1.getD t162.toNat []
   cond (decide (0 ≤ t162))
   (
   cond (decide (t162 < (z28.length : Int)))
   (
   let z29 := z28.getD t162.toNat (((false, ([], ())), (0, ())), (((false, ([], ())), (0, ())), ()))
   (S.span_Meet ((((z29.1.1.1, z29.1.1.2.1, ()), z29.1.2.1, ()), ((z29.2.1.1.1, z29.2.1.1.2.1, ()), z29.2.1.2.1, ()), ()), (((z24.1.1.1.1, z24.1.1.1.2.1, ()), z24.1.1.2.1, ()), ((z24.1.2.1.1.1, z24.1.2.1.1.2.1, ()), z24.1.2.1.2.1, ()), ()), ())).bind fun z30 =>
   cond (!(decide (z22.2.1 = 0))) (some (false, ()))
   (
   cond (!(decide (z23.2.1 = 0))) (some (false, ()))
   (
   cond (!(decide (z24.2.1 = 0))) (some (false, ()))
   (
   cond (!(decide (z27.2.1 = 0))) (some (false, ()))
   (
   cond (!(decide (z30.2.1 = 0))) (some (false, ()))
   (
   I2 list t_0 t_1 t_2 p_0 p_1 near_0 near_1 near_2 near_3 near_4 near_5 t162 t160 t161 t162 (list.length : Int) 0)))))) none) none) none) none) none) none) none) none) none) none) (some (true, ()))

def girdletop_WholePowers_l1 (K : Nat) (κ0 : (List RT) → Bool → (List Int) → (List Int) → (List (List SP)) → (List (List SP)) → (List (List RT)) → (List RT) → Int → Int → Option (Bool × Unit)) : Nat → (List RT) → Bool → (List Int) → (List Int) → (List (List SP)) → (List (List SP)) → Bool → (List Int) → Int → Bool → (List Int) → Int → (List RT) → Int → Int → Option (Bool × Unit)
  | 0, _, _, _, _, _, _, _, _, _, _, _, _, _, _, _ => none
  | n + 1, list, t_0, t_1, t_2, p_0, p_1, near_0, near_1, near_2, near_3, near_4, near_5, t160, t161, t162 => girdletop_WholePowers_s1 (girdletop_WholePowers_l2 K κ0 (girdletop_WholePowers_l1 K κ0 n) K) κ0 (girdletop_WholePowers_l1 K κ0 n) list t_0 t_1 t_2 p_0 p_1 near_0 near_1 near_2 near_3 near_4 near_5 t160 t161 t162

/-- girdletop_WholePowers: one round of loop 0. -/
def girdletop_WholePowers_s0 (I1 : (List RT) → Bool → (List Int) → (List Int) → (List (List SP)) → (List (List SP)) → Bool → (List Int) → Int → Bool → (List Int) → Int → (List RT) → Int → Int → Option (Bool × Unit)) (κ0 : (List RT) → Bool → (List Int) → (List Int) → (List (List SP)) → (List (List SP)) → (List (List RT)) → (List RT) → Int → Int → Option (Bool × Unit)) (list : List RT) (t_0 : Bool) (t_1 : List Int) (t_2 : List Int) (p_0 : List (List SP)) (p_1 : List (List SP)) (a : List (List RT)) (t97 : List RT) (t98 : Int) (t99 : Int) : Option (Bool × Unit) :=
  cond (decide (t99 < t98))
   (
   cond (decide (0 ≤ t99))
   (
   cond (decide (t99 < (t97.length : Int)))
   (
   let z10 := t97.getD t99.toNat ((false, ([], ())), ([], ()))
   (S.ratio_Check (((z10.1.1, z10.1.2.1, ()), z10.2.1, ()), ())).bind fun z11 =>
   cond (!(decide (z11.1 = 0))) (some (true, ()))
   (
   cond (decide (1 < (z10.1.2.1.length : Int))) (some (true, ()))
   (
   cond (decide (1 < (z10.2.1.length : Int))) (some (true, ()))
   (
   (S.ratio_Sign (((z10.1.1, z10.1.2.1, ()), z10.2.1, ()), ())).bind fun z12 =>
   cond (decide (z12.1 < 0)) (some (true, ()))
   (
   cond (decide (0 ≤ t99))
   (
   cond (decide (t99 < (a.length : Int)))
   (
   cond (decide (0 ≤ t99))
   (
   cond (decide (t99 < ((a.getD t99.toNat []).length : Int)))
   (
   κ0 list t_0 t_1 t_2 p_0 p_1 (a.set t99.toNat ((a.getD t99.toNat []).set t99.toNat ((z10.1.1, z10.1.2.1, ()), z10.2.1, ()))) t97 t98 (IntKind.i64.wrap (t99 + 1))) none) none) none) none))))) none) none)
   (
   (S.grow_Rate (a, ((t_0, t_1, ()), t_2, ()), ())).bind fun z15 =>
   (S.ratio_Of (8, 1, ())).bind fun z16 =>
   (S.ratio_Compare (((z15.1.1.1, z15.1.1.2.1, ()), z15.1.2.1, ()), ((z16.1.1.1, z16.1.1.2.1, ()), z16.1.2.1, ()), ())).bind fun z17 =>
   cond (decide (0 < z17.1)) (some (true, ()))
   (
   (S.series_Make (a, ((t_0, t_1, ()), t_2, ()), 50, ())).bind fun z18 =>
   cond (!(decide (z18.2.1 = 0))) (some (false, ()))
   (
   (S.span_Near (((t_0, t_1, ()), t_2, ()), 50, ())).bind fun z19 =>
   I1 list t_0 t_1 t_2 z18.1.1 z18.1.2.1 z19.1.1.1.1 z19.1.1.1.2.1 z19.1.1.2.1 z19.1.2.1.1.1 z19.1.2.1.1.2.1 z19.1.2.1.2.1 list (list.length : Int) 0)))

def girdletop_WholePowers_l0 (K : Nat) : Nat → (List RT) → Bool → (List Int) → (List Int) → (List (List SP)) → (List (List SP)) → (List (List RT)) → (List RT) → Int → Int → Option (Bool × Unit)
  | 0, _, _, _, _, _, _, _, _, _, _ => none
  | n + 1, list, t_0, t_1, t_2, p_0, p_1, a, t97, t98, t99 => girdletop_WholePowers_s0 (girdletop_WholePowers_l1 K (girdletop_WholePowers_l0 K n) K) (girdletop_WholePowers_l0 K n) list t_0 t_1 t_2 p_0 p_1 a t97 t98 t99

/-- girdletop.WholePowers -/
def girdletop_WholePowers_b (I0 : (List RT) → Bool → (List Int) → (List Int) → (List (List SP)) → (List (List SP)) → (List (List RT)) → (List RT) → Int → Int → Option (Bool × Unit)) (list : List RT) (t : RT) : Option (Bool × Unit) :=
  (S.mat_One (1, ())).bind fun z1 =>
  (S.ratio_Zero (())).bind fun z2 =>
  (S.series_Make (z1.1, ((z2.1.1.1, z2.1.1.2.1, ()), z2.1.2.1, ()), 30, ())).bind fun z3 =>
  (S.ratio_Zero (())).bind fun z4 =>
  (S.grow_Exp (((z4.1.1.1, z4.1.1.2.1, ()), z4.1.2.1, ()), 30, ())).bind fun z5 =>
  cond (!(decide (z3.2.1 = 0))) (some (false, ()))
   (
   cond (!(decide (z5.2.1 = 0))) (some (false, ()))
   (
   cond (!(decide ((z3.1.1.length : Int) = 1))) (some (false, ()))
   (
   (S.span_Text ((((z5.1.1.1.1, z5.1.1.1.2.1, ()), z5.1.1.2.1, ()), ((z5.1.2.1.1.1, z5.1.2.1.1.2.1, ()), z5.1.2.1.2.1, ()), ()), ())).bind fun z6 =>
   cond ((z6.1.toList == (⟨#[]⟩ : ByteArray).toList)) (some (false, ()))
   (
   cond (decide ((list.length : Int) < 1)) (some (true, ()))
   (
   cond (decide (3 < (list.length : Int))) (some (true, ()))
   (
   (S.ratio_Check (((t.1.1, t.1.2.1, ()), t.2.1, ()), ())).bind fun z7 =>
   cond (!(decide (z7.1 = 0))) (some (true, ()))
   (
   cond (decide (1 < (t.1.2.1.length : Int))) (some (true, ()))
   (
   cond (decide (1 < (t.2.1.length : Int))) (some (true, ()))
   (
   (S.ratio_Sign (((t.1.1, t.1.2.1, ()), t.2.1, ()), ())).bind fun z8 =>
   cond (decide (z8.1 < 0)) (some (true, ()))
   (
   (S.mat_Zero ((list.length : Int), (list.length : Int), ())).bind fun z9 =>
   I0 list t.1.1 t.1.2.1 t.2.1 z3.1.1 z3.1.2.1 z9.1 list (list.length : Int) 0))))))))))

def girdletop_WholePowers (K : Nat) (list : List RT) (t : RT) : Option (Bool × Unit) := girdletop_WholePowers_b (girdletop_WholePowers_l0 K K) list t

def S.girdletop_WholePowers (x : (List RT) × RT × Unit) : Option (Bool × Unit) := L.girdletop_WholePowers 100 x.1 x.2.1

/-- The two enclosures of one number. -/
theorem grow_T {N : Nat} {r : Rat} (hN : N = 2 ^ 100) (hr : big r 2) (h0 : 0 ≤ r) (h8 : r ≤ 8) :
    ∃ x y : SP, S.grow_Exp (R r, 50, ()) = some (x, 0, ()) ∧ S.grow_One (R r, 50, ()) = some (y, 0, ()) ∧ Hq x ((1 + r / N) ^ N) ∧ Hq y (geo (r / N) N * (1 / N)) := by
  have b1 : big 1 1 := big_1q
  obtain ⟨TE, TC, e1, e2⟩ := Make_T (n := 1) (a := fun _ => r) (t := 1) hN (by decide) (by decide) (fun _ _ => hr) (fun _ _ => h0) b1 (by decide) (by decide +kernel) (fun _ _ => by rw [Rat.mul_one]; exact hr) (fun _ _ => by rw [Rat.mul_one]; exact h8)
  obtain ⟨q1, q2⟩ := e2 0 (by decide) 0 (by decide)
  have hd : ∀ p : Nat → Rat, dq p 0 0 = p 0 := fun p => if_pos rfl
  rw [hd, Rat.mul_one] at q1 q2
  have hl : Vx 1 (fun i => Rx 1 (dq (fun _ => r) i)) = [[R r]] := by
    show [[R (dq (fun _ => r) 0 0)]] = _
    rw [hd]
  rw [hl] at e1
  have ck : S.grow_check (R r, 50, ()) = some (0, ()) := by
    have s1 := ratio_Sign_R r
    have b32 : big 32 1 := ⟨by decide +kernel, by decide +kernel⟩
    have s2 := ratio_Compare_R hr b32 (by decide)
    have s3 : Rat.divInt 32 1 = 32 := by decide +kernel
    simp only [S.grow_check, L.grow_check]
    rw [cf (by decide), cf (by decide), show S.ratio_Sign _ = _ from s1, Option.bind_some]
    rw [cf (by have := num_nn h0; rcases Int.lt_or_eq_of_le this with h | h; rw [sgn_gt h]; decide; rw [← h, sgn_self]; decide)]
    rw [ratio_Of_R (by decide) (by decide) (by decide) (by decide) (by decide), Option.bind_some, s3, show S.ratio_Compare _ = _ from s2, Option.bind_some, ct rfl]
    have := sgq_le (a := r) (b := 32) (by have : (8 : Rat) ≤ 32 := by decide +kernel
                                          exact Rat.le_trans h8 this)
    rw [cf (by simp only; omega)]
  have pr : S.grow_pair (R r, 50, ()) = some ((Vx 1 (fun i => Vx 1 (TE i)), Vx 1 (fun i => Vx 1 (TC i)), ()), 0, ()) := by
    simp only [S.grow_pair, L.grow_pair]
    rw [show S.grow_check _ = _ from ck, Option.bind_some]
    simp only [decide_true, Bool.not_true, cond_false]
    rw [ratio_one, Option.bind_some, show S.series_Make _ = _ from e1, Option.bind_some]
  refine ⟨TE 0 0, TC 0 0, ?_, ?_, q1, q2⟩
  · simp only [S.grow_Exp, L.grow_Exp]
    rw [show S.grow_pair _ = _ from pr, Option.bind_some]
    rfl
  · simp only [S.grow_One, L.grow_One]
    rw [show S.grow_pair _ = _ from pr, Option.bind_some]
    rfl

/-- A span holds a ratio, at an exponent. -/
def Hg (e : Int) (k : Nat) (s : SP) (q : Rat) : Prop := ∃ l h : Int, s = Sp l h e ∧ lt2 l h k ∧ dv l e ≤ q ∧ q ≤ dv h e
theorem meet_T {e : Int} {k : Nat} {s s' : SP} {q : Rat} (h : Hg e k s q) (h' : Hg e k s' q) (hk : k ≤ 490) (h0 : -60000 ≤ e) (h1 : e ≤ 20000) : ∃ m : SP, S.span_Meet (s, s', ()) = some (m, 0, ()) := by
  obtain ⟨l, u, rfl, a1, a2, a3⟩ := h
  obtain ⟨l', u', rfl, b1, b2, b3⟩ := h'
  have c1 := dv_le.1 (Rat.le_trans a2 a3)
  have c2 := dv_le.1 (Rat.le_trans a2 b3)
  have c3 := dv_le.1 (Rat.le_trans b2 a3)
  have c4 := dv_le.1 (Rat.le_trans b2 b3)
  refine ⟨Sp (max l l') (min u u') e, ?_⟩
  rw [span_Meet_Sp a1 b1 hk h0 h1, if_neg (by omega)]
theorem Hq_Hg {s : SP} {q : Rat} (h : Hq s q) : Hg (-2000) 120 s q := h
theorem Hg_fine {e : Int} {k : Nat} {s : SP} {q : Rat} (h : Hg e k s q) (n : Nat) {e' : Int} (he : e' + (n : Int) = e) {k' : Nat} (hk : 32 * k + n < 32 * k') : Hg e' k' s q := by
  obtain ⟨l, u, rfl, ⟨a1, a4⟩, a2, a3⟩ := h
  have key : ∀ x : Int, x.natAbs < P k → (x * 2 ^ n).natAbs < P k' := by
    intro x hx
    rw [P_two] at hx
    refine two_lt_P (mul_two (Nat.le_of_lt hx) (by rw [natAbs_two]; exact Nat.le_refl (2 ^ n))) (by omega)
  refine ⟨l * 2 ^ n, u * 2 ^ n, by simp only [Sp, Yd_scale, he], ⟨key l a1, key u a4⟩, by rw [dv_scale, he]; exact a2, by rw [dv_scale, he]; exact a3⟩
theorem mul_T {s : SP} {q t : Rat} {z : Int × Int} (h : Hq s q) (hz : sb z 116) (ht : hs z (-83) t) : ∃ m : SP, S.span_Mul (s, Sp z.1 z.2 (-83), 50, ()) = some (m, 0, ()) ∧ Hg (-2083) 125 m (q * t) := by
  obtain ⟨l, u, rfl, a1, a2, a3⟩ := h
  have m1 := span_Mul_Sp (b := 50) (e := -2000) (f := -83) a1 (hz.lt2 (k := 4) (by decide)) (by decide) (by decide) (by decide) (by decide) (by decide) (by decide) (by decide)
  have m2 := mlo_abs a1 (hz.lt2 (k := 4) (by decide))
  have m3 := q_mul_mid a2 a3 ht.1 ht.2
  refine ⟨_, m1, _, _, rfl, ⟨rdn_abs m2.1, rup_abs m2.2⟩, ?_, ?_⟩
  · exact Rat.le_trans (dv_le.2 (rdn_le _ _)) m3.1
  · exact Rat.le_trans m3.2 (dv_le.2 (rup_ge _ _))
theorem has_T {s : SP} {q v : Rat} (h : Hq s v) (hq : big q 1) : ∃ b, S.span_HasRatio (s, R q, ()) = some (b, 0, ()) ∧ (v = q → b = true) := by
  obtain ⟨l, u, rfl, a1, a2, a3⟩ := h
  have e0 : ∀ (a : SP) (r : RT), S.span_HasRatio (a, r, ()) = (S.dyad_Cmp (a.1, r, ())).bind fun z1 => cond (!(decide (z1.2.1 = 0))) (some (false, z1.2.1, ())) ((S.dyad_Cmp (a.2.1, r, ())).bind fun z2 => cond (decide (z2.2.1 = 0)) (cond (decide (z1.1 ≤ 0)) (some (decide (0 ≤ z2.1), z2.2.1, ())) (some (false, z2.2.1, ()))) (some (false, z2.2.1, ()))) := fun _ _ => rfl
  have c1 := dyad_Cmp_Yn (e := -2000) (i := 120) (j := 1) a1.1 (by decide) (by decide) (by decide) (by decide) (by decide) hq (by decide)
  have c2 := dyad_Cmp_Yn (e := -2000) (i := 120) (j := 1) a1.2 (by decide) (by decide) (by decide) (by decide) (by decide) hq (by decide)
  rw [e0, c1, Option.bind_some]
  simp only [decide_true, Bool.not_true, cond_false]
  rw [c2, Option.bind_some]
  simp only [decide_true, cond_true]
  by_cases h1 : sgq (dv l (-2000)) q ≤ 0
  · rw [ct h1]
    refine ⟨_, rfl, fun h => ?_⟩
    subst h
    exact decide_eq_true (sgq_ge a3)
  · rw [cf h1]
    refine ⟨_, rfl, fun h => ?_⟩
    subst h
    exact absurd (sgq_le a2) h1
end Go.L

/-! EJ -/
namespace Go.L
open Go.PM
set_option exponentiation.threshold 20000
set_option linter.unusedVariables false
set_option linter.unusedSimpArgs false
set_option maxRecDepth 100000
/-- The first lines, all closed. -/
theorem pro_one : S.mat_One (1, ()) = some ([[((false, [1], ()), [1], ())]], ()) := by kernel_rfl
theorem pro_zero : S.ratio_Zero () = some (((false, [], ()), [1], ()), ()) := by kernel_rfl
theorem pro_make : ∃ z, S.series_Make ([[((false, [1], ()), [1], ())]], ((false, [], ()), [1], ()), 30, ()) = some z ∧ z.2.1 = 0 ∧ (z.1.1.length : Int) = 1 := by
  have h : (match S.series_Make ([[((false, [1], ()), [1], ())]], ((false, [], ()), [1], ()), 30, ()) with | some z => decide (z.2.1 = 0) && decide ((z.1.1.length : Int) = 1) | none => false) = true := by decide +kernel
  generalize S.series_Make ([[((false, [1], ()), [1], ())]], ((false, [], ()), [1], ()), 30, ()) = r at h ⊢
  cases r with
  | none => exact absurd h (by decide)
  | some z =>
    have h' : (decide (z.2.1 = 0) && decide ((z.1.1.length : Int) = 1)) = true := h
    rw [Bool.and_eq_true] at h'
    exact ⟨z, rfl, of_decide_eq_true h'.1, of_decide_eq_true h'.2⟩
theorem pro_exp : ∃ z, S.grow_Exp (((false, [], ()), [1], ()), 30, ()) = some z ∧ z.2.1 = 0 ∧ ∃ s, S.span_Text (z.1, ()) = some s ∧ (s.1.toList == (⟨#[]⟩ : ByteArray).toList) = false := by
  have h : (match S.grow_Exp (((false, [], ()), [1], ()), 30, ()) with | some z => decide (z.2.1 = 0) && (match S.span_Text (z.1, ()) with | some s => !(s.1.toList == (⟨#[]⟩ : ByteArray).toList) | none => false) | none => false) = true := by decide +kernel
  generalize S.grow_Exp (((false, [], ()), [1], ()), 30, ()) = r at h ⊢
  cases r with
  | none => exact absurd h (by decide)
  | some z =>
    have h' : (decide (z.2.1 = 0) && (match S.span_Text (z.1, ()) with | some s => !(s.1.toList == (⟨#[]⟩ : ByteArray).toList) | none => false)) = true := h
    rw [Bool.and_eq_true] at h'
    refine ⟨z, rfl, of_decide_eq_true h'.1, ?_⟩
    have h2 := h'.2
    generalize S.span_Text (z.1, ()) = s at h2 ⊢
    cases s with
    | none => exact absurd h2 (by decide)
    | some s =>
      have h3 : (!(s.1.toList == (⟨#[]⟩ : ByteArray).toList)) = true := h2
      exact ⟨s, rfl, by simpa using h3⟩

/-- Off the corners every place holds nought. -/
theorem pow_off {n i : Nat} {p : Nat → Rat} {TE : Nat → Nat → SP} (hn : n ≤ 3) (hi : i < n) (hE : ∀ j < n, Hq (TE i j) (dq p i j)) (κ0 : (List RT) → Bool → (List Int) → (List Int) → (List (List SP)) → (List (List SP)) → (List (List RT)) → (List RT) → Int → Int → Option (Bool × Unit)) (κ1 : (List RT) → Bool → (List Int) → (List Int) → (List (List SP)) → (List (List SP)) → Bool → (List Int) → Int → Bool → (List Int) → Int → (List RT) → Int → Int → Option (Bool × Unit)) (l : List RT) (t0 : Bool) (t1 t2 : List Int) (p1 : List (List SP)) (a0 : Bool) (a1 : List Int) (a2 : Int) (a3 : Bool) (a4 : List Int) (a5 : Int) (u : List RT) (u1 : Int) :
    girdletop_WholePowers_l2 100 κ0 κ1 100 l t0 t1 t2 (Vx n (fun i => Vx n (TE i))) p1 a0 a1 a2 a3 a4 a5 (i : Int) u u1 (i : Int) (n : Int) 0 = κ1 l t0 t1 t2 (Vx n (fun i => Vx n (TE i))) p1 a0 a1 a2 a3 a4 a5 u u1 ((i + 1 : Nat) : Int) := by
  refine loop_up n (fun _ => ()) (fun k _ j => girdletop_WholePowers_l2 100 κ0 κ1 k l t0 t1 t2 (Vx n (fun i => Vx n (TE i))) p1 a0 a1 a2 a3 a4 a5 (i : Int) u u1 (i : Int) (n : Int) j) _ (fun k j hj => ?_) (fun k => ?_) 100 (by omega)
  · obtain ⟨b, e, hb⟩ := has_T (hE j hj) (big_zero (k := 1) (by decide))
    simp only [girdletop_WholePowers_l2, girdletop_WholePowers_s2, Vx_len, Int.toNat_natCast]
    simp only [show (Vx n (fun i => Vx n (TE i))).getD i [] = Vx n (TE i) from Vx_get hi _, Vx_len]
    rw [ct (by omega), ct (by omega), ct (by omega), ct (by omega), ct (by omega), show S.ratio_Zero _ = _ from ratio_Zero_R, Option.bind_some, Vx_get hj, show S.span_HasRatio _ = _ from e, Option.bind_some, wi1 (by omega)]
    by_cases hij : j = i
    · rw [decide_eq_true (show (j : Int) = i by omega)]; rfl
    · rw [decide_eq_false (show ¬ (j : Int) = i by omega)]
      simp only [Bool.not_false, cond_true]
      rw [hb (if_neg fun e => hij e.symm)]; rfl
  · simp only [girdletop_WholePowers_l2, girdletop_WholePowers_s2]
    rw [cf (by omega), wi1 (by omega)]

/-- Corner by corner the two ways meet. -/
theorem pow_on {n N : Nat} {q : Nat → Rat} {t : Rat} {TE TC : Nat → Nat → SP} (hN : N = 2 ^ 100) (hn : n ≤ 3) (hq : ∀ i < n, big (q i) 1) (h0 : ∀ i < n, 0 ≤ q i) (h8 : ∀ i < n, q i * t ≤ 8) (ht : big t 1) (t0 : 0 ≤ t) (t1 : t ≤ ((2 ^ 32 : Int) : Rat))
    (hE : ∀ i < n, ∀ j < n, Hq (TE i j) (dq (fun i => (1 + q i * t / N) ^ N) i j)) (hC : ∀ i < n, ∀ j < n, Hq (TC i j) (dq (fun i => geo (q i * t / N) N * (t / N)) i j)) (κ0 : (List RT) → Bool → (List Int) → (List Int) → (List (List SP)) → (List (List SP)) → (List (List RT)) → (List RT) → Int → Int → Option (Bool × Unit)) {z : Int × Int} (hz : sb z 116) (hzt : hs z (-83) t) :
    girdletop_WholePowers_l1 100 κ0 100 (Vx n (fun i => R (q i))) (R t).1.1 (R t).1.2.1 (R t).2.1 (Vx n (fun i => Vx n (TE i))) (Vx n (fun i => Vx n (TC i))) (Sp z.1 z.2 (-83)).1.1.1 (Sp z.1 z.2 (-83)).1.1.2.1 (Sp z.1 z.2 (-83)).1.2.1 (Sp z.1 z.2 (-83)).2.1.1.1 (Sp z.1 z.2 (-83)).2.1.1.2.1 (Sp z.1 z.2 (-83)).2.1.2.1 (Vx n (fun i => R (q i))) (n : Int) 0 = some (true, ()) := by
  generalize hS : Sp z.1 z.2 (-83) = s
  refine loop_up n (fun _ => ()) (fun k _ i => girdletop_WholePowers_l1 100 κ0 k (Vx n (fun i => R (q i))) (R t).1.1 (R t).1.2.1 (R t).2.1 (Vx n (fun i => Vx n (TE i))) (Vx n (fun i => Vx n (TC i))) s.1.1.1 s.1.1.2.1 s.1.2.1 s.2.1.1.1 s.2.1.1.2.1 s.2.1.2.1 (Vx n (fun i => R (q i))) (n : Int) i) _ (fun k i hi => ?_) (fun k => ?_) 100 (by omega)
  · have hb : big (q i * t) 2 := big_mul (hq i hi) ht
    obtain ⟨x, y, e1, e2, g1, g2⟩ := grow_T hN hb (mul_nn (h0 i hi) t0) (h8 i hi)
    obtain ⟨m, e3, g3⟩ := mul_T g2 hz hzt
    rw [hS] at e3
    have k1 := hE i hi i hi
    have k2 := hC i hi i hi
    have hd : ∀ p : Nat → Rat, dq p i i = p i := fun p => if_pos rfl
    rw [hd] at k1 k2
    obtain ⟨m1, e4⟩ := meet_T (Hq_Hg k1) (Hq_Hg g1) (by decide) (by decide) (by decide)
    have k3 := Hg_fine (Hq_Hg k2) 83 (e' := -2083) (by decide) (k' := 125) (by decide)
    have ev : geo (q i * t / N) N * (1 / (N : Rat)) * t = geo (q i * t / N) N * (t / N) := by rw [Rat.div_def, Rat.div_def, Rat.one_mul]; grind
    rw [ev] at g3
    obtain ⟨m2, e5⟩ := meet_T k3 g3 (by decide) (by decide) (by decide)
    have e0 := ratio_Mul_R (hq i hi) ht (by decide)
    simp only [girdletop_WholePowers_l1, girdletop_WholePowers_s1, Vx_len, Int.toNat_natCast]
    simp only [show (Vx n (fun i => Vx n (TE i))).getD i [] = Vx n (TE i) from Vx_get hi _, show (Vx n (fun i => Vx n (TC i))).getD i [] = Vx n (TC i) from Vx_get hi _, Vx_len]
    rw [ct (by omega), ct (by omega), ct (by omega), Vx_get hi, show S.ratio_Mul _ = _ from e0, Option.bind_some, show S.grow_Exp _ = _ from e1, Option.bind_some, show S.grow_One _ = _ from e2, Option.bind_some, show S.span_Mul _ = _ from e3, Option.bind_some]
    rw [ct (by omega), ct (by omega), ct (by omega), ct (by omega), Vx_get hi, show S.span_Meet _ = _ from e4, Option.bind_some]
    rw [ct (by omega), ct (by omega), ct (by omega), ct (by omega), Vx_get hi, show S.span_Meet _ = _ from e5, Option.bind_some]
    simp only [decide_true, Bool.not_true, cond_false]
    exact pow_off hn hi (fun j hj => hE i hi j hj) ..
  · simp only [girdletop_WholePowers_l1, girdletop_WholePowers_s1]
    rw [cf (by omega)]

/-- The first look at a ratio. -/
def preR (x : RT) (k : Option (Bool × Unit)) : Option (Bool × Unit) := (S.ratio_Check (x, ())).bind fun z => cond (!(decide (z.1 = 0))) (some (true, ())) (cond (decide (1 < (x.1.2.1.length : Int))) (some (true, ())) (cond (decide (1 < (x.2.1.length : Int))) (some (true, ())) ((S.ratio_Sign (x, ())).bind fun z => cond (decide (z.1 < 0)) (some (true, ())) k)))
theorem preR_in {x : RT} (hx : inR x) (k : Option (Bool × Unit)) : preR x k = some (true, ()) ∨ ∃ q : Rat, x = R q ∧ big q 1 ∧ 0 ≤ q ∧ preR x k = k := by
  unfold preR
  rcases ratio_Check_in hx with ⟨c, c0, hc⟩ | ⟨hc, q, rfl, hq⟩
  · left
    rw [hc, Option.bind_some, decide_eq_false c0]; rfl
  · simp only [hc, Option.bind_some, decide_true, Bool.not_true, cond_false, ratio_Sign_R]
    by_cases h1 : 1 < ((D q.num.natAbs).length : Int)
    · left; rw [ct h1]
    rw [cf h1]
    by_cases h2 : 1 < ((D q.den).length : Int)
    · left; rw [ct h2]
    rw [cf h2]
    by_cases h3 : sgn q.num 0 < 0
    · left; rw [ct h3]
    rw [cf h3]
    right
    refine ⟨q, rfl, big_len (m := 1) (by omega) (by omega), ?_, rfl⟩
    refine Rat.num_nonneg.1 ?_
    rcases sgn0 q.num with ⟨e, h⟩ | ⟨e, h⟩ | ⟨e, h⟩ <;> omega
theorem big_le {q : Rat} (hb : big q 1) (h0 : 0 ≤ q) : q ≤ ((2 ^ 32 : Int) : Rat) := by
  have e := num_den q
  have h1 : ((1 : Int) : Rat) ≤ ((q.den : Int) : Rat) := Rat.intCast_le_intCast.2 (by have := q.den_pos; omega)
  have h2 := Rat.mul_le_mul_of_nonneg_left h1 h0
  have h3 : (q.num : Rat) ≤ ((2 ^ 32 : Int) : Rat) := Rat.intCast_le_intCast.2 (by have := hb.1; have e : P 1 = 4294967296 := rfl; rw [e] at this; omega)
  have e1 : ((1 : Int) : Rat) = 1 := rfl
  rw [e1, Rat.mul_one, e] at h2
  exact Rat.le_trans h2 h3

/-- The row of corners, and what comes after. -/
theorem pow_all {l : List RT} {t : Rat} {P0 P1 : List (List SP)} (hn1 : 1 ≤ l.length) (hn : l.length ≤ 3) (hl : ∀ d ∈ l, inR d) (ht : big t 1) (t0 : 0 ≤ t) :
    girdletop_WholePowers_l0 100 100 l (R t).1.1 (R t).1.2.1 (R t).2.1 P0 P1 (Vx l.length (fun _ => Rx l.length (fun _ => 0))) l (l.length : Int) 0 = some (true, ()) := by
  have hz : Vx l.length (fun _ => Rx l.length (fun _ => 0)) = Vx l.length (fun p => Vx l.length (fun j => if p = j ∧ p < 0 then l.getD p rt0 else R 0)) := Vx_congr fun p _ => Vx_congr fun j _ => by rw [if_neg (by omega)]
  rw [hz]
  rcases loop_or l.length (fun i => Vx l.length (fun p => Vx l.length (fun j => if p = j ∧ p < i then l.getD p rt0 else R 0))) (fun k s i => girdletop_WholePowers_l0 100 k l (R t).1.1 (R t).1.2.1 (R t).2.1 P0 P1 s l (l.length : Int) i) (fun r => r = some (true, ())) (fun i => ∃ q : Rat, l.getD i rt0 = R q ∧ big q 1 ∧ 0 ≤ q) (fun k i hk hi => by
      simp only [girdletop_WholePowers_l0, girdletop_WholePowers_s0, Vx_len, Int.toNat_natCast]
      rw [ct (by omega), ct (by omega), ct (by omega)]
      have hin := inR_get hl hi
      generalize hg : Vx l.length (fun p => Vx l.length (fun j => if p = j ∧ p < i then l.getD p rt0 else R 0)) = g
      have gi : g.getD i [] = Vx l.length (fun j => if i = j ∧ i < i then l.getD i rt0 else R 0) := by rw [← hg]; exact Vx_get hi _
      have gl : g.length = l.length := by rw [← hg]; exact Vx_len _ _
      have gs : g.set i ((g.getD i []).set i (l.getD i rt0)) = Vx l.length (fun p => Vx l.length (fun j => if p = j ∧ p < i + 1 then l.getD p rt0 else R 0)) := by
        rw [gi, Vx_set hi, ← hg, Vx_set hi]
        refine Vx_congr fun p hp => ?_
        by_cases h : p = i
        · subst h
          rw [if_pos rfl]
          refine Vx_congr fun j hj => ?_
          by_cases h' : j = p
          · subst h'; rw [if_pos rfl, if_pos ⟨rfl, by omega⟩]
          · rw [if_neg h', if_neg (by omega), if_neg (by omega)]
        · rw [if_neg h]
          refine Vx_congr fun j hj => ?_
          by_cases h' : p = j ∧ p < i
          · rw [if_pos h', if_pos ⟨h'.1, by omega⟩]
          · rw [if_neg h', if_neg (by omega)]
      have gil : ((g.getD i []).length : Int) = (l.length : Int) := by rw [gi, Vx_len]
      rcases preR_in hin (cond (decide (0 ≤ (i : Int))) (cond (decide ((i : Int) < (l.length : Int))) (cond (decide (0 ≤ (i : Int))) (cond (decide ((i : Int) < ((g.getD i []).length : Int))) (girdletop_WholePowers_l0 100 k l (R t).1.1 (R t).1.2.1 (R t).2.1 P0 P1 (g.set i ((g.getD i []).set i (l.getD i rt0))) l (l.length : Int) (IntKind.i64.wrap ((i : Int) + 1))) none) none) none) none) with h | ⟨q, hx, hq, h0, h⟩
      · exact .inr h
      · refine .inl ⟨?_, q, hx, hq, h0⟩
        refine Eq.trans h ?_
        rw [ct (by omega), ct (by omega), ct (by omega), ct (by omega), gs, wi1 (by omega)]) 100 (by omega) with h | ⟨k, e2, h⟩
  · exact h
  · refine Eq.trans e2 ?_
    obtain ⟨q, hlq, hq⟩ : ∃ q : Nat → Rat, l = Vx l.length (fun i => R (q i)) ∧ ∀ i < l.length, big (q i) 1 ∧ 0 ≤ q i := by
      have h' : ∀ i, ∃ q : Rat, i < l.length → l.getD i rt0 = R q ∧ big q 1 ∧ 0 ≤ q := by
        intro i
        by_cases hi : i < l.length
        · obtain ⟨q, h1, h2⟩ := h i hi
          exact ⟨q, fun _ => ⟨h1, h2⟩⟩
        · exact ⟨0, fun h => absurd h hi⟩
      refine ⟨fun i => (h' i).choose, ?_, fun i hi => ((h' i).choose_spec hi).2⟩
      have e1 := Vx_of l rt0
      rw [Vx_congr (fun i hi => ((h' i).choose_spec hi).1)] at e1
      exact e1
    have hst : Vx l.length (fun p => Vx l.length (fun j => if p = j ∧ p < l.length then l.getD p rt0 else R 0)) = Vx l.length (fun p => Rx l.length (dq q p)) := by
      refine Vx_congr fun p hp => Vx_congr fun j hj => ?_
      have e : l.getD p rt0 = R (q p) := by rw [hlq]; exact Vx_get hp _
      unfold dq
      by_cases h' : p = j
      · rw [if_pos ⟨h', hp⟩, if_pos h', e]
      · rw [if_neg (by omega), if_neg h']
    simp only [hst]
    generalize l.length = n at *
    subst hlq
    have hb : ∀ i < n, big (q i) 1 := fun i hi => (hq i hi).1
    have h0 : ∀ i < n, 0 ≤ q i := fun i hi => (hq i hi).2
    have r1 := norm_T (m := q) hn (j := 1) (by decide) (by decide) h0 hb
    have hm := mxq_big (m := q) (j := 1) (by decide) n hb
    have r2 := ratio_Mul_R hm ht (by decide)
    have hR : S.grow_Rate (Vx n (fun p => Rx n (dq q p)), R t, ()) = some (R (mxq q n * t), 0, ()) := by
      simp only [S.grow_Rate, L.grow_Rate]
      rw [show S.mat_Norm _ = _ from r1, Option.bind_some]
      simp only [decide_true, Bool.not_true, cond_false]
      rw [show S.ratio_Mul _ = _ from r2, Option.bind_some]
    have r3 : S.ratio_Of (8, 1, ()) = some (R 8, ()) := by
      rw [ratio_Of_R (by decide) (by decide) (by decide) (by decide) (by decide)]; rfl
    have r4 := ratio_Compare_R (big_mul hm ht) (show big 8 1 from ⟨by decide +kernel, by decide +kernel⟩) (by decide)
    simp only [girdletop_WholePowers_l0, girdletop_WholePowers_s0]
    rw [cf (by omega), show S.grow_Rate _ = _ from hR, Option.bind_some, r3, Option.bind_some, show S.ratio_Compare _ = _ from r4, Option.bind_some]
    by_cases h8 : 0 < sgq (mxq q n * t) 8
    · rw [ct h8]
    rw [cf h8]
    have h8' := sgq_no h8
    have h8i : ∀ i < n, q i * t ≤ 8 := fun i hi => Rat.le_trans (mxq_mul t0 n i hi) h8'
    obtain ⟨N, hN⟩ : ∃ N : Nat, N = 2 ^ 100 := ⟨_, rfl⟩
    have ht1 := big_le ht t0
    obtain ⟨TE, TC, e1, e3⟩ := Make_T (n := n) (a := q) hN hn1 hn (fun i hi => (hb i hi).mono (by decide)) h0 ht t0 ht1 (fun i hi => big_mul (hb i hi) ht) h8i
    rw [show S.series_Make _ = _ from e1, Option.bind_some]
    simp only [decide_true, Bool.not_true, cond_false]
    have hB : nsh t 50 ≤ (83 : Nat) := by have := (nsh_le (b := 50) ht).1; omega
    have r5 : S.span_Near (R t, 50, ()) = _ := span_Near_nr (b := 50) (B := 83) ht (by decide) (by decide) (by decide) hB
    rw [show S.span_Near _ = _ from r5, Option.bind_some]
    simp only [Vx_len]
    exact pow_on (z := (nr false t 50 83, nr true t 50 83)) hN hn hb h0 h8i ht t0 ht1 (fun i hi j hj => (e3 i hi j hj).1) (fun i hi j hj => (e3 i hi j hj).2) _ ⟨nr_up t0 ht1 (by decide) hB false, nr_up t0 ht1 (by decide) hB true⟩ ⟨nr_lo (B := 83) hB, nr_hi (B := 83) hB⟩

theorem WholePowers_true {l : List RT} {t : RT} (hl : ∀ d ∈ l, inR d) (ht : inR t) : S.girdletop_WholePowers (l, t, ()) = some (true, ()) := by
  obtain ⟨z1, e1, f1, g1⟩ := pro_make
  obtain ⟨z2, e2, f2, s, e3, f3⟩ := pro_exp
  simp only [S.girdletop_WholePowers, L.girdletop_WholePowers, girdletop_WholePowers_b]
  rw [pro_one, Option.bind_some, pro_zero, Option.bind_some, show S.series_Make _ = _ from e1, Option.bind_some, Option.bind_some, show S.grow_Exp _ = _ from e2, Option.bind_some, decide_eq_true f1, decide_eq_true f2, decide_eq_true g1]
  simp only [Bool.not_true, cond_false]
  rw [show S.span_Text _ = _ from e3, Option.bind_some, f3]
  simp only [cond_false]
  by_cases h1 : (l.length : Int) < 1
  · rw [ct h1]
  rw [cf h1]
  by_cases h2 : 3 < (l.length : Int)
  · rw [ct h2]
  rw [cf h2]
  rcases preR_in ht ((S.mat_Zero ((l.length : Int), (l.length : Int), ())).bind fun z9 => girdletop_WholePowers_l0 100 100 l t.1.1 t.1.2.1 t.2.1 z1.1.1 z1.1.2.1 z9.1 l (l.length : Int) 0) with h | ⟨q, rfl, hq, h0, h⟩
  · exact h
  · refine Eq.trans h ?_
    rw [Zero_V (by omega), Option.bind_some]
    exact pow_all (by omega) (by omega) hl hq h0
end Go.L

/-
  the laws of dyads. the laws of dyads: made, rounded. the law of dyads near ratios.
  No condition beyond those that each theorem names.
-/
import Derived.Test.YtninholkanohkaaDoorM

/-! VA -/
namespace Go.L
open Go.PM
set_option exponentiation.threshold 20000
set_option linter.unusedVariables false
set_option linter.unusedSimpArgs false

/-- ratio.Sub -/
def ratio_Sub (a : (Bool × (List Int) × Unit) × (List Int) × Unit) (b : (Bool × (List Int) × Unit) × (List Int) × Unit) : Option (((Bool × (List Int) × Unit) × (List Int) × Unit) × Int × Unit) :=
  (S.ratio_Neg (((b.1.1, b.1.2.1, ()), b.2.1, ()), ())).bind fun z1 =>
  (S.ratio_Add (((a.1.1, a.1.2.1, ()), a.2.1, ()), ((z1.1.1.1, z1.1.1.2.1, ()), z1.1.2.1, ()), ())).bind fun z2 =>
  some (((z2.1.1.1, z2.1.1.2.1, ()), z2.1.2.1, ()), z2.2.1, ())

def S.ratio_Sub (x : RT × RT × Unit) : Option (RT × Int × Unit) := L.ratio_Sub x.1 x.2.1
theorem ratio_Sub_R {a b : Rat} {j k : Nat} (ha : big a j) (hb : big b k) (h : j + k + 1 ≤ 512) : S.ratio_Sub (R a, R b, ()) = some (R (a - b), 0, ()) := by
  have e0 : ∀ x y : RT, S.ratio_Sub (x, y, ()) = (S.ratio_Neg (y, ())).bind fun z1 => (S.ratio_Add (x, z1.1, ())).bind fun z2 => some z2 := fun _ _ => rfl
  rw [e0, ratio_Neg_R hb (by omega), Option.bind_some, ratio_Add_R ha (big_neg hb) h, Option.bind_some, Rat.sub_eq_add_neg]
theorem big_sub {a b : Rat} {j k : Nat} (ha : big a j) (hb : big b k) : big (a - b) (j + k + 1) := by
  rw [Rat.sub_eq_add_neg]; exact big_add ha (big_neg hb)
/-- ratio.Abs -/
def ratio_Abs (a : (Bool × (List Int) × Unit) × (List Int) × Unit) : Option (((Bool × (List Int) × Unit) × (List Int) × Unit) × Unit) :=
  (S.whole_Abs ((a.1.1, a.1.2.1, ()), ())).bind fun z1 =>
  (S.slices_Clone_api_Nat_uint32 (a.2.1, ())).bind fun z2 =>
  some (((z1.1.1, z1.1.2.1, ()), z2.1, ()), ())

def S.ratio_Abs (x : RT × Unit) : Option (RT × Unit) := L.ratio_Abs x.1
/-- The size of a ratio. -/
def qabs (q : Rat) : Rat := if q < 0 then -q else q
theorem qabs_num (q : Rat) : (qabs q).num = (q.num.natAbs : Int) ∧ (qabs q).den = q.den := by
  unfold qabs
  have h0 : q < 0 ↔ q.num < 0 := by rw [Rat.lt_iff]; simp
  split
  · rename_i h
    rw [Rat.neg_num, Rat.neg_den]
    have := h0.1 h
    exact ⟨by omega, rfl⟩
  · rename_i h
    have : ¬ q.num < 0 := fun h' => h (h0.2 h')
    exact ⟨by omega, rfl⟩
theorem ratio_Abs_R {q : Rat} {k : Nat} (h : big q k) (hk : k ≤ 1000) : S.ratio_Abs (R q, ()) = some (R (qabs q), ()) := by
  obtain ⟨h1, h2⟩ := qabs_num q
  have e1 := whole_Abs_I (P1000 h.1 hk)
  have e2 := Clone_D (P1000 h.2 hk)
  have e0 : ∀ x : RT, S.ratio_Abs (x, ()) = (S.whole_Abs (x.1, ())).bind fun z1 => (S.slices_Clone_api_Nat_uint32 (x.2.1, ())).bind fun z2 => some ((z1.1, z2.1, ()), ()) := fun _ => rfl
  rw [e0, e1, Option.bind_some, e2, Option.bind_some]
  simp only [R, h1, h2]
/-- ratio.Text -/
def ratio_Text (a : (Bool × (List Int) × Unit) × (List Int) × Unit) : Option (ByteArray × Unit) :=
  (S.limbs_Of (1, ())).bind fun z1 =>
  (S.limbs_Compare (a.2.1, z1.1, ())).bind fun z2 =>
  cond (decide (z2.1 = 0))
    (
      (S.whole_Text ((a.1.1, a.1.2.1, ()), ())).bind fun z3 =>
      some (z3.1, ()))
    (
      (S.whole_Text ((a.1.1, a.1.2.1, ()), ())).bind fun z4 =>
      cond (decide (z4.1.size + (⟨#[47]⟩ : ByteArray).size ≤ 9223372036854775807))
        (
          let z5 := z4.1 ++ (⟨#[47]⟩ : ByteArray)
          (S.digits_Text (a.2.1, ())).bind fun z6 =>
          cond (decide (z5.size + z6.1.size ≤ 9223372036854775807)) (some ((z5 ++ z6.1), ())) none) none)

def S.ratio_Text (x : RT × Unit) : Option (ByteArray × Unit) := L.ratio_Text x.1
/-- girdlelaw05.is -/
def w05_is (a : (Bool × (List Int) × Unit) × Int × Unit) (num : Int) (den : Int) : Option (Bool × Unit) :=
  (S.ratio_Of (num, den, ())).bind fun z1 =>
  (S.dyad_Cmp (((a.1.1, a.1.2.1, ()), a.2.1, ()), ((z1.1.1.1, z1.1.1.2.1, ()), z1.1.2.1, ()), ())).bind fun z2 =>
  cond (decide (z2.2.1 = 0))
    (
      cond (decide (z2.1 = 0))
        (
          (S.dyad_Check (((a.1.1, a.1.2.1, ()), a.2.1, ()), ())).bind fun z3 =>
          some (decide (z3.1 = 0), ())) (some (false, ()))) (some (false, ()))

def S.w05_is (x : DY × Int × Int × Unit) : Option (Bool × Unit) := L.w05_is x.1 x.2.1 x.2.2.1
/-- girdlelaw05.halves -/
def w05_halves  : Option (Bool × Unit) :=
  (S.dyad_Of (3, (-1 : Int), ())).bind fun z1 =>
  (S.dyad_Of ((-1 : Int), 2, ())).bind fun z2 =>
  (S.dyad_Add (((z1.1.1.1, z1.1.1.2.1, ()), z1.1.2.1, ()), ((z2.1.1.1, z2.1.1.2.1, ()), z2.1.2.1, ()), ())).bind fun z3 =>
  (S.dyad_Sub (((z1.1.1.1, z1.1.1.2.1, ()), z1.1.2.1, ()), ((z2.1.1.1, z2.1.1.2.1, ()), z2.1.2.1, ()), ())).bind fun z4 =>
  (S.dyad_Mul (((z1.1.1.1, z1.1.1.2.1, ()), z1.1.2.1, ()), ((z2.1.1.1, z2.1.1.2.1, ()), z2.1.2.1, ()), ())).bind fun z5 =>
  (S.dyad_Of (21, 0, ())).bind fun z6 =>
  (S.dyad_Round (((z6.1.1.1, z6.1.1.2.1, ()), z6.1.2.1, ()), 3, false, ())).bind fun z7 =>
  (S.dyad_Of (21, 0, ())).bind fun z8 =>
  (S.dyad_Round (((z8.1.1.1, z8.1.1.2.1, ()), z8.1.2.1, ()), 3, true, ())).bind fun z9 =>
  (S.ratio_Of (1, 3, ())).bind fun z10 =>
  (S.dyad_Near (((z10.1.1.1, z10.1.1.2.1, ()), z10.1.2.1, ()), 4, false, ())).bind fun z11 =>
  (S.ratio_Of (1, 3, ())).bind fun z12 =>
  (S.dyad_Near (((z12.1.1.1, z12.1.1.2.1, ()), z12.1.2.1, ()), 4, true, ())).bind fun z13 =>
  (S.dyad_Ratio (((z1.1.1.1, z1.1.1.2.1, ()), z1.1.2.1, ()), ())).bind fun z14 =>
  (S.ratio_Of (1, 3, ())).bind fun z15 =>
  (S.dyad_Cmp (((z11.1.1.1, z11.1.1.2.1, ()), z11.1.2.1, ()), ((z15.1.1.1, z15.1.1.2.1, ()), z15.1.2.1, ()), ())).bind fun z16 =>
  (S.whole_Of (12, ())).bind fun z17 =>
  (S.dyad_Make ((z17.1.1, z17.1.2.1, ()), 1, ())).bind fun z18 =>
  (S.dyad_Round (((z1.1.1.1, z1.1.1.2.1, ()), z1.1.2.1, ()), 1, true, ())).bind fun z19 =>
  cond (decide ((IntKind.i64.wrap ((IntKind.i64.wrap ((IntKind.i64.wrap ((IntKind.i64.wrap ((IntKind.i64.wrap ((IntKind.i64.wrap ((IntKind.i64.wrap ((IntKind.i64.wrap ((IntKind.i64.wrap (z3.2.1 + z4.2.1)) + z5.2.1)) + z7.2.1)) + z9.2.1)) + z11.2.1)) + z13.2.1)) + z14.2.1)) + z16.2.1)) + z18.2.1)) = 0))
    (
      cond (decide (z19.2.1 = 1))
        (
          (S.w05_is (((z3.1.1.1, z3.1.1.2.1, ()), z3.1.2.1, ()), (-5 : Int), 2, ())).bind fun z29 =>
          cond (z29.1)
            (
              (S.w05_is (((z4.1.1.1, z4.1.1.2.1, ()), z4.1.2.1, ()), 11, 2, ())).bind fun z30 =>
              cond (z30.1)
                (
                  (S.w05_is (((z5.1.1.1, z5.1.1.2.1, ()), z5.1.2.1, ()), (-6 : Int), 1, ())).bind fun z31 =>
                  cond (z31.1)
                    (
                      (S.w05_is (((z7.1.1.1, z7.1.1.2.1, ()), z7.1.2.1, ()), 20, 1, ())).bind fun z32 =>
                      cond (z32.1)
                        (
                          (S.w05_is (((z9.1.1.1, z9.1.1.2.1, ()), z9.1.2.1, ()), 24, 1, ())).bind fun z33 =>
                          cond (z33.1)
                            (
                              (S.w05_is (((z11.1.1.1, z11.1.1.2.1, ()), z11.1.2.1, ()), 5, 16, ())).bind fun z34 =>
                              cond (z34.1)
                                (
                                  (S.w05_is (((z13.1.1.1, z13.1.1.2.1, ()), z13.1.2.1, ()), 11, 32, ())).bind fun z35 =>
                                  cond (z35.1)
                                    (
                                      (S.ratio_Text (((z14.1.1.1, z14.1.1.2.1, ()), z14.1.2.1, ()), ())).bind fun z36 =>
                                      cond ((z36.1.toList == (⟨#[51, 47, 50]⟩ : ByteArray).toList))
                                        (
                                          cond (decide (z16.1 = (-1 : Int)))
                                            (
                                              cond (decide (z18.1.2.1 = 3))
                                                (
                                                  (S.dyad_Sign (((z2.1.1.1, z2.1.1.2.1, ()), z2.1.2.1, ()), ())).bind fun z37 =>
                                                  cond (decide (z37.1 = (-1 : Int)))
                                                    (
                                                      (S.dyad_Neg (((z2.1.1.1, z2.1.1.2.1, ()), z2.1.2.1, ()), ())).bind fun z38 =>
                                                      (S.w05_is (((z38.1.1.1, z38.1.1.2.1, ()), z38.1.2.1, ()), 4, 1, ())).bind fun z39 =>
                                                      cond (z39.1)
                                                        (
                                                          (S.dyad_Abs (((z2.1.1.1, z2.1.1.2.1, ()), z2.1.2.1, ()), ())).bind fun z40 =>
                                                          (S.w05_is (((z40.1.1.1, z40.1.1.2.1, ()), z40.1.2.1, ()), 4, 1, ())).bind fun z41 =>
                                                          cond (z41.1)
                                                            (
                                                              (S.dyad_Less (((z2.1.1.1, z2.1.1.2.1, ()), z2.1.2.1, ()), ((z1.1.1.1, z1.1.1.2.1, ()), z1.1.2.1, ()), ())).bind fun z42 =>
                                                              cond (z42.1)
                                                                (
                                                                  (S.dyad_Max (((z1.1.1.1, z1.1.1.2.1, ()), z1.1.2.1, ()), ((z2.1.1.1, z2.1.1.2.1, ()), z2.1.2.1, ()), ())).bind fun z43 =>
                                                                  (S.w05_is (((z43.1.1.1, z43.1.1.2.1, ()), z43.1.2.1, ()), 3, 2, ())).bind fun z44 =>
                                                                  cond (z44.1)
                                                                    (
                                                                      (S.dyad_Min (((z1.1.1.1, z1.1.1.2.1, ()), z1.1.2.1, ()), ((z2.1.1.1, z2.1.1.2.1, ()), z2.1.2.1, ()), ())).bind fun z45 =>
                                                                      (S.w05_is (((z45.1.1.1, z45.1.1.2.1, ()), z45.1.2.1, ()), (-4 : Int), 1, ())).bind fun z46 =>
                                                                      cond (z46.1)
                                                                        (
                                                                          (S.dyad_Compare (((z1.1.1.1, z1.1.1.2.1, ()), z1.1.2.1, ()), ((z1.1.1.1, z1.1.1.2.1, ()), z1.1.2.1, ()), ())).bind fun z47 =>
                                                                          cond (decide (z47.1 = 0))
                                                                            (
                                                                              (S.dyad_Check (((z1.1.1.1, z1.1.1.2.1, ()), z1.1.2.1, ()), ())).bind fun z48 =>
                                                                              cond (decide (z48.1 = 0))
                                                                                (
                                                                                  (S.dyad_Check (((false, [], ()), 1, ()), ())).bind fun z49 =>
                                                                                  cond (decide (z49.1 = 2)) (some (true, ())) (some (false, ()))) (some (false, ()))) (some (false, ()))) (some (false, ()))) (some (false, ()))) (some (false, ()))) (some (false, ()))) (some (false, ()))) (some (false, ()))) (some (false, ()))) (some (false, ()))) (some (false, ()))) (some (false, ()))) (some (false, ()))) (some (false, ()))) (some (false, ()))) (some (false, ()))) (some (false, ()))) (some (false, ()))) (some (false, ()))) (some (false, ()))

def S.w05_halves (x : Unit) : Option (Bool × Unit) := L.w05_halves
theorem w05_halves_true : S.w05_halves () = some (true, ()) := by
  simp only [S.w05_halves, L.w05_halves, toList_eq]
  decide +kernel
/-- w05_fit: one round of loop 0. -/
def w05_fit_s0 (κ0 : (List ((Bool × (List Int) × Unit) × Int × Unit)) → Int → Int → Option (Bool × Unit)) (t5 : List ((Bool × (List Int) × Unit) × Int × Unit)) (t6 : Int) (t7 : Int) : Option (Bool × Unit) :=
  cond (decide (t7 < t6))
    (
      cond (decide (0 ≤ t7))
        (
          cond (decide (t7 < (t5.length : Int)))
            (
              let z1 := t5.getD t7.toNat ((false, ([], ())), (0, ()))
              cond (decide (15 < (z1.1.2.1.length : Int))) (some (false, ()))
                (
                  cond (decide (300 < z1.2.1)) (some (false, ()))
                    (
                      cond (decide (z1.2.1 < (-300 : Int))) (some (false, ()))
                        (
                          (S.dyad_Check (((z1.1.1, z1.1.2.1, ()), z1.2.1, ()), ())).bind fun z2 =>
                          cond (!(decide (z2.1 = 0))) (some (false, ())) (κ0 t5 t6 (IntKind.i64.wrap (t7 + 1))))))) none) none) (some (true, ()))

def w05_fit_l0 (K : Nat) : Nat → (List ((Bool × (List Int) × Unit) × Int × Unit)) → Int → Int → Option (Bool × Unit)
  | 0, _, _, _ => none
  | n + 1, t5, t6, t7 => w05_fit_s0 (w05_fit_l0 K n) t5 t6 t7

/-- girdlelaw05.fit -/
def w05_fit_b (I0 : (List ((Bool × (List Int) × Unit) × Int × Unit)) → Int → Int → Option (Bool × Unit)) (list : List ((Bool × (List Int) × Unit) × Int × Unit)) : Option (Bool × Unit) :=
  I0 list (list.length : Int) 0

def w05_fit (K : Nat) (list : List ((Bool × (List Int) × Unit) × Int × Unit)) : Option (Bool × Unit) := w05_fit_b (w05_fit_l0 K K) list

def S.w05_fit (x : List DY × Unit) : Option (Bool × Unit) := L.w05_fit 100 x.1
/-- A dyad that fits. -/
def fits05 (x : DY) : Prop := ∃ z : Int, x = Yd z (-((300 : Nat) : Int)) ∧ z.natAbs < P 34
theorem w05_fit_in {l : List DY} (hl : l.length ≤ 16) (h : ∀ d ∈ l, inY d) : S.w05_fit (l, ()) = some (false, ()) ∨ (S.w05_fit (l, ()) = some (true, ()) ∧ ∀ i < l.length, fits05 (l.getD i dy0)) := by
  simp only [S.w05_fit, L.w05_fit, w05_fit_b]
  rcases loop_or l.length (fun _ => ()) (fun k _ i => w05_fit_l0 100 k l (l.length : Int) i) (fun r => r = some (false, ())) (fun i => fits05 (l.getD i dy0)) (fun k i hk hi => by
    simp only [w05_fit_l0, w05_fit_s0]
    rw [ct (by omega), ct (by omega), ct (by omega), Int.toNat_natCast]
    have hin := inY_get h hi
    generalize hd : l.getD i ((false, ([], ())), (0, ())) = d
    have hd' : l.getD i dy0 = d := hd
    rw [hd'] at hin
    by_cases h1 : 15 < d.1.2.1.length
    · right; rw [ct (by omega)]
    rw [cf (by omega)]
    by_cases h2 : 300 < d.2.1
    · right; rw [ct h2]
    rw [cf h2]
    by_cases h3 : d.2.1 < -300
    · right; rw [ct h3]
    rw [cf h3]
    rcases dyad_Check_full hin with ⟨c, c0, e⟩ | ⟨e, q⟩
    · right; rw [show S.dyad_Check _ = _ from e, Option.bind_some]; simp only; rw [decide_eq_false c0]; rfl
    rw [show S.dyad_Check _ = _ from e, Option.bind_some]
    simp only [decide_true, Bool.not_true, cond_false]
    left; rw [wi1 (by omega)]
    exact ⟨rfl, isY_Yd (B := 300) (n := 15) (k := 34) q (by omega) (by omega) (by omega) (by decide)⟩) 100 (by omega) with h | ⟨k, e, h⟩
  · exact .inl h
  · right
    refine ⟨?_, h⟩
    have e' : w05_fit_l0 100 100 l (l.length : Int) 0 = _ := e
    rw [e']
    simp only [w05_fit_l0, w05_fit_s0]
    rw [cf (by omega)]
theorem w05_fit1 {a : DY} (ha : inY a) : S.w05_fit ([a], ()) = some (false, ()) ∨ (S.w05_fit ([a], ()) = some (true, ()) ∧ fits05 a) := by
  rcases w05_fit_in (l := [a]) (by simp) (fun l hl => by rcases List.mem_cons.1 hl with rfl | h; exact ha; cases h) with h | ⟨h, h2⟩
  · exact .inl h
  · exact .inr ⟨h, h2 0 (by simp)⟩
theorem w05_fit2 {a b : DY} (ha : inY a) (hb : inY b) : S.w05_fit ([a, b], ()) = some (false, ()) ∨ (S.w05_fit ([a, b], ()) = some (true, ()) ∧ fits05 a ∧ fits05 b) := by
  rcases w05_fit_in (l := [a, b]) (by simp) (fun l hl => by
      rcases List.mem_cons.1 hl with rfl | h
      · exact ha
      · rcases List.mem_cons.1 h with rfl | h
        · exact hb
        · cases h) with h | ⟨h, h2⟩
  · exact .inl h
  · exact .inr ⟨h, h2 0 (by simp), h2 1 (by simp)⟩
/-- girdlelaw05.exact -/
def w05_exact (a : (Bool × (List Int) × Unit) × Int × Unit) (e : Int) (b : (Bool × (List Int) × Unit) × (List Int) × Unit) (f : Int) : Option (Bool × Unit) :=
  (S.dyad_Ratio (((a.1.1, a.1.2.1, ()), a.2.1, ()), ())).bind fun z1 =>
  (S.ratio_Compare (((z1.1.1.1, z1.1.1.2.1, ()), z1.1.2.1, ()), ((b.1.1, b.1.2.1, ()), b.2.1, ()), ())).bind fun z2 =>
  cond (decide (e = 0))
    (
      cond (decide (f = 0))
        (
          cond (decide (z1.2.1 = 0))
            (
              cond (decide (z2.2.1 = 0))
                (
                  cond (decide (z2.1 = 0))
                    (
                      (S.dyad_Check (((a.1.1, a.1.2.1, ()), a.2.1, ()), ())).bind fun z3 =>
                      some (decide (z3.1 = 0), ())) (some (false, ()))) (some (false, ()))) (some (false, ()))) (some (false, ()))) (some (false, ()))

def S.w05_exact (x : DY × Int × RT × Int × Unit) : Option (Bool × Unit) := L.w05_exact x.1 x.2.1 x.2.2.1 x.2.2.2.1
theorem w05_exact_Yd {x e : Int} {q : Rat} {k i j : Nat} (hx : x.natAbs < P k) (hk : k ≤ 490) (hki : k ≤ i) (he0 : -2000 ≤ e) (he1 : e ≤ 0) (hi : -e < 32 * (i : Int)) (hq : big q j) (hj : i + j ≤ 512) (h : dv x e = q) : S.w05_exact (Yd x e, 0, R q, 0, ()) = some (true, ()) := by
  obtain ⟨h1, h2⟩ := dyad_Ratio_Yn hx (by omega) hki (by omega) he1 hi
  have h3 := ratio_Compare_R h2 hq (by omega)
  have h4 := dyad_Check_Yd (e := e) hx (by omega) (by omega) (by omega)
  have e0 : ∀ (a : DY) (e : Int) (b : RT) (f : Int), S.w05_exact (a, e, b, f, ()) = (S.dyad_Ratio (a, ())).bind fun z1 => (S.ratio_Compare (z1.1, b, ())).bind fun z2 => cond (decide (e = 0)) (cond (decide (f = 0)) (cond (decide (z1.2.1 = 0)) (cond (decide (z2.2.1 = 0)) (cond (decide (z2.1 = 0)) ((S.dyad_Check (a, ())).bind fun z3 => some (decide (z3.1 = 0), ())) (some (false, ()))) (some (false, ()))) (some (false, ()))) (some (false, ()))) (some (false, ())) := fun _ _ _ _ => rfl
  have hs : sgq (dv x e) q = 0 := by rw [h]; unfold sgq; rw [if_neg Rat.lt_irrefl, if_neg Rat.lt_irrefl]
  rw [hs] at h3
  rw [e0, h1, Option.bind_some, h3, Option.bind_some]
  simp only [decide_true, cond_true]
  rw [h4, Option.bind_some]
  rfl
/-- girdlelaw05.DyadRings -/
def w05_DyadRings (a : (Bool × (List Int) × Unit) × Int × Unit) (b : (Bool × (List Int) × Unit) × Int × Unit) : Option (Bool × Unit) :=
  (S.w05_halves (())).bind fun z1 =>
  cond (!z1.1) (some (false, ()))
    (
      (S.w05_fit ([((a.1.1, a.1.2.1, ()), a.2.1, ()), ((b.1.1, b.1.2.1, ()), b.2.1, ())], ())).bind fun z2 =>
      cond (!z2.1) (some (true, ()))
        (
          (S.dyad_Ratio (((a.1.1, a.1.2.1, ()), a.2.1, ()), ())).bind fun z3 =>
          (S.dyad_Ratio (((b.1.1, b.1.2.1, ()), b.2.1, ()), ())).bind fun z4 =>
          cond (!(decide (z3.2.1 = 0))) (some (false, ()))
            (
              cond (!(decide (z4.2.1 = 0))) (some (false, ()))
                (
                  (S.dyad_Add (((a.1.1, a.1.2.1, ()), a.2.1, ()), ((b.1.1, b.1.2.1, ()), b.2.1, ()), ())).bind fun z5 =>
                  (S.ratio_Add (((z3.1.1.1, z3.1.1.2.1, ()), z3.1.2.1, ()), ((z4.1.1.1, z4.1.1.2.1, ()), z4.1.2.1, ()), ())).bind fun z6 =>
                  (S.dyad_Sub (((a.1.1, a.1.2.1, ()), a.2.1, ()), ((b.1.1, b.1.2.1, ()), b.2.1, ()), ())).bind fun z7 =>
                  (S.ratio_Sub (((z3.1.1.1, z3.1.1.2.1, ()), z3.1.2.1, ()), ((z4.1.1.1, z4.1.1.2.1, ()), z4.1.2.1, ()), ())).bind fun z8 =>
                  (S.dyad_Mul (((a.1.1, a.1.2.1, ()), a.2.1, ()), ((b.1.1, b.1.2.1, ()), b.2.1, ()), ())).bind fun z9 =>
                  (S.ratio_Mul (((z3.1.1.1, z3.1.1.2.1, ()), z3.1.2.1, ()), ((z4.1.1.1, z4.1.1.2.1, ()), z4.1.2.1, ()), ())).bind fun z10 =>
                  (S.w05_exact (((z5.1.1.1, z5.1.1.2.1, ()), z5.1.2.1, ()), z5.2.1, ((z6.1.1.1, z6.1.1.2.1, ()), z6.1.2.1, ()), z6.2.1, ())).bind fun z11 =>
                  cond (z11.1)
                    (
                      (S.w05_exact (((z7.1.1.1, z7.1.1.2.1, ()), z7.1.2.1, ()), z7.2.1, ((z8.1.1.1, z8.1.1.2.1, ()), z8.1.2.1, ()), z8.2.1, ())).bind fun z12 =>
                      cond (z12.1)
                        (
                          (S.w05_exact (((z9.1.1.1, z9.1.1.2.1, ()), z9.1.2.1, ()), z9.2.1, ((z10.1.1.1, z10.1.1.2.1, ()), z10.1.2.1, ()), z10.2.1, ())).bind fun z13 =>
                          some (z13.1, ())) (some (false, ()))) (some (false, ()))))))

theorem DyadRings_true {a b : DY} (ha : inY a) (hb : inY b) : w05_DyadRings a b = some (true, ()) := by
  unfold w05_DyadRings
  rw [w05_halves_true, Option.bind_some]
  simp only [Bool.not_true, cond_false]
  rcases w05_fit2 ha hb with e | ⟨e, ⟨x, rfl, hx⟩, y, rfl, hy⟩
  · rw [show S.w05_fit _ = _ from e]; rfl
  rw [show S.w05_fit _ = _ from e, Option.bind_some]
  simp only [Bool.not_true, cond_false]
  obtain ⟨r1, b1⟩ := dyad_Ratio_Yn (e := -((300 : Nat) : Int)) (j := 34) hx (by decide) (by decide) (by decide) (by decide) (by decide)
  obtain ⟨r2, b2⟩ := dyad_Ratio_Yn (e := -((300 : Nat) : Int)) (j := 34) hy (by decide) (by decide) (by decide) (by decide) (by decide)
  have s1 := dyad_Add_Yd (e := -((300 : Nat) : Int)) hx hy (by decide) (by decide) (by decide)
  have s2 := dyad_Sub_Yd (e := -((300 : Nat) : Int)) hx hy (by decide) (by decide) (by decide)
  have s3 := dyad_Mul_Yd (e := -((300 : Nat) : Int)) (f := -((300 : Nat) : Int)) hx hy (by decide) (by decide) (by decide) (by decide) (by decide)
  have t1 := ratio_Add_R b1 b2 (by decide)
  have t2 := ratio_Sub_R b1 b2 (by decide)
  have t3 := ratio_Mul_R b1 b2 (by decide)
  have x1 := w05_exact_Yd (e := -((300 : Nat) : Int)) (i := 40) (nA_add hx hy) (by decide) (by decide) (by decide) (by decide) (by decide) (big_add b1 b2) (by decide) (dv_add x y _)
  have x2 := w05_exact_Yd (e := -((300 : Nat) : Int)) (k := 35) (x := x - y) (i := 40) (by rw [Int.sub_eq_add_neg]; exact nA_add hx (by rw [Int.natAbs_neg]; exact hy)) (by decide) (by decide) (by decide) (by decide) (by decide) (big_sub b1 b2) (by decide) (dv_sub x y _)
  have x3 := w05_exact_Yd (e := -((300 : Nat) : Int) + -((300 : Nat) : Int)) (i := 80) (nA_mul hx hy) (by decide) (by decide) (by decide) (by decide) (by decide) (big_mul b1 b2) (by decide) (dv_mul x y _ _)
  rw [show S.dyad_Ratio _ = _ from r1, Option.bind_some, show S.dyad_Ratio _ = _ from r2, Option.bind_some]
  simp only [decide_true, Bool.not_true, cond_false]
  rw [show S.dyad_Add _ = _ from s1, Option.bind_some, show S.ratio_Add _ = _ from t1, Option.bind_some, show S.dyad_Sub _ = _ from s2, Option.bind_some, show S.ratio_Sub _ = _ from t2, Option.bind_some, show S.dyad_Mul _ = _ from s3, Option.bind_some, show S.ratio_Mul _ = _ from t3, Option.bind_some]
  rw [show S.w05_exact _ = _ from x1, Option.bind_some]
  simp only [cond_true]
  rw [show S.w05_exact _ = _ from x2, Option.bind_some]
  simp only [cond_true]
  rw [show S.w05_exact _ = _ from x3, Option.bind_some]
/-- girdlelaw05.DyadOrders -/
def w05_DyadOrders (a : (Bool × (List Int) × Unit) × Int × Unit) (b : (Bool × (List Int) × Unit) × Int × Unit) : Option (Bool × Unit) :=
  (S.w05_halves (())).bind fun z1 =>
  cond (!z1.1) (some (false, ()))
    (
      (S.w05_fit ([((a.1.1, a.1.2.1, ()), a.2.1, ()), ((b.1.1, b.1.2.1, ()), b.2.1, ())], ())).bind fun z2 =>
      cond (!z2.1) (some (true, ()))
        (
          (S.dyad_Ratio (((a.1.1, a.1.2.1, ()), a.2.1, ()), ())).bind fun z3 =>
          (S.dyad_Ratio (((b.1.1, b.1.2.1, ()), b.2.1, ()), ())).bind fun z4 =>
          (S.ratio_Compare (((z3.1.1.1, z3.1.1.2.1, ()), z3.1.2.1, ()), ((z4.1.1.1, z4.1.1.2.1, ()), z4.1.2.1, ()), ())).bind fun z5 =>
          (S.dyad_Cmp (((a.1.1, a.1.2.1, ()), a.2.1, ()), ((z4.1.1.1, z4.1.1.2.1, ()), z4.1.2.1, ()), ())).bind fun z6 =>
          (S.dyad_Compare (((a.1.1, a.1.2.1, ()), a.2.1, ()), ((b.1.1, b.1.2.1, ()), b.2.1, ()), ())).bind fun z7 =>
          cond (decide (z5.2.1 = 0))
            (
              cond (decide (z6.2.1 = 0))
                (
                  cond (decide (z5.1 = z7.1))
                    (
                      cond (decide (z6.1 = z7.1))
                        (
                          (S.dyad_Compare (((b.1.1, b.1.2.1, ()), b.2.1, ()), ((a.1.1, a.1.2.1, ()), a.2.1, ()), ())).bind fun z8 =>
                          cond (decide (z7.1 = (IntKind.i64.wrap (0 - z8.1))))
                            (
                              (S.dyad_Less (((a.1.1, a.1.2.1, ()), a.2.1, ()), ((b.1.1, b.1.2.1, ()), b.2.1, ()), ())).bind fun z10 =>
                              cond ((z10.1 == decide (z7.1 < 0)))
                                (
                                  (S.dyad_Max (((a.1.1, a.1.2.1, ()), a.2.1, ()), ((b.1.1, b.1.2.1, ()), b.2.1, ()), ())).bind fun z11 =>
                                  (S.dyad_Min (((a.1.1, a.1.2.1, ()), a.2.1, ()), ((b.1.1, b.1.2.1, ()), b.2.1, ()), ())).bind fun z12 =>
                                  (S.dyad_Compare (((z11.1.1.1, z11.1.1.2.1, ()), z11.1.2.1, ()), ((z12.1.1.1, z12.1.1.2.1, ()), z12.1.2.1, ()), ())).bind fun z13 =>
                                  cond (decide (0 ≤ z13.1))
                                    (
                                      (S.dyad_Sign (((a.1.1, a.1.2.1, ()), a.2.1, ()), ())).bind fun z14 =>
                                      (S.ratio_Sign (((z3.1.1.1, z3.1.1.2.1, ()), z3.1.2.1, ()), ())).bind fun z15 =>
                                      some (decide (z14.1 = z15.1), ())) (some (false, ()))) (some (false, ()))) (some (false, ()))) (some (false, ()))) (some (false, ()))) (some (false, ()))) (some (false, ()))))

theorem sgn_flip (x y : Int) : sgn x y = -sgn y x := by unfold sgn; split <;> split <;> omega
theorem sgn_range (x y : Int) : -1 ≤ sgn x y ∧ sgn x y ≤ 1 := by unfold sgn; split <;> (try split) <;> omega
theorem dv_sign (x e : Int) : sgn (dv x e).num 0 = sgn x 0 := by
  have h1 := sgq_dv x 0 e
  rw [dv_zero] at h1
  rw [← h1]
  unfold sgq sgn
  have a1 : (dv x e).num < 0 ↔ dv x e < 0 := by rw [Rat.lt_iff]; simp
  have a2 : 0 < (dv x e).num ↔ 0 < dv x e := by rw [Rat.lt_iff]; simp
  by_cases h : dv x e < 0
  · rw [if_pos h, if_pos (a1.2 h)]
  · rw [if_neg h, if_neg (fun h' => h (a1.1 h'))]
    by_cases h' : 0 < dv x e
    · rw [if_pos h', if_pos (a2.2 h')]
    · rw [if_neg h', if_neg (fun h'' => h' (a2.1 h''))]
theorem DyadOrders_true {a b : DY} (ha : inY a) (hb : inY b) : w05_DyadOrders a b = some (true, ()) := by
  unfold w05_DyadOrders
  rw [w05_halves_true, Option.bind_some]
  simp only [Bool.not_true, cond_false]
  rcases w05_fit2 ha hb with e | ⟨e, ⟨x, rfl, hx⟩, y, rfl, hy⟩
  · rw [show S.w05_fit _ = _ from e]; rfl
  rw [show S.w05_fit _ = _ from e, Option.bind_some]
  simp only [Bool.not_true, cond_false]
  obtain ⟨r1, b1⟩ := dyad_Ratio_Yn (e := -((300 : Nat) : Int)) (j := 34) hx (by decide) (by decide) (by decide) (by decide) (by decide)
  obtain ⟨r2, b2⟩ := dyad_Ratio_Yn (e := -((300 : Nat) : Int)) (j := 34) hy (by decide) (by decide) (by decide) (by decide) (by decide)
  have t1 := ratio_Compare_R b1 b2 (by decide)
  have t2 := dyad_Cmp_Yn (e := -((300 : Nat) : Int)) (i := 34) hx (by decide) (by decide) (by decide) (by decide) (by decide) b2 (by decide)
  rw [sgq_dv] at t1 t2
  have t3 := dyad_Compare_Yd (e := -((300 : Nat) : Int)) hx hy (by decide) (by decide) (by decide)
  have t4 := dyad_Compare_Yd (e := -((300 : Nat) : Int)) hy hx (by decide) (by decide) (by decide)
  have t5 := dyad_Less_Yd (e := -((300 : Nat) : Int)) hx hy (by decide) (by decide) (by decide)
  have t6 := dyad_Max_Yd (e := -((300 : Nat) : Int)) hx hy (by decide) (by decide) (by decide)
  have t7 := dyad_Min_Yd (e := -((300 : Nat) : Int)) hx hy (by decide) (by decide) (by decide)
  have m1 : (max x y).natAbs < P 34 := by omega
  have m2 : (min x y).natAbs < P 34 := by omega
  have t8 := dyad_Compare_Yd (e := -((300 : Nat) : Int)) m1 m2 (by decide) (by decide) (by decide)
  have t9 := dyad_Sign_Yd x (-((300 : Nat) : Int))
  have t10 := ratio_Sign_R (dv x (-((300 : Nat) : Int)))
  rw [dv_sign] at t10
  have g1 := sgn_range y x
  have g2 : 0 ≤ sgn (max x y) (min x y) := by unfold sgn; rw [if_neg (by omega)]; split <;> omega
  rw [show S.dyad_Ratio _ = _ from r1, Option.bind_some, show S.dyad_Ratio _ = _ from r2, Option.bind_some, show S.ratio_Compare _ = _ from t1, Option.bind_some, show S.dyad_Cmp _ = _ from t2, Option.bind_some, show S.dyad_Compare _ = _ from t3, Option.bind_some]
  simp only [decide_true, cond_true]
  rw [show S.dyad_Compare _ = _ from t4, Option.bind_some]
  simp only
  rw [wi64 (x := 0 - sgn y x) (by omega) (by omega), ct (by have := sgn_flip x y; omega), show S.dyad_Less _ = _ from t5, Option.bind_some]
  have hb : (decide (x < y) == decide (sgn x y < 0)) = true := by
    have : decide (x < y) = decide (sgn x y < 0) := decide_eq_decide.2 (sgn_neg0 x y).symm
    rw [this]; simp
  simp only [hb, cond_true]
  rw [show S.dyad_Max _ = _ from t6, Option.bind_some, show S.dyad_Min _ = _ from t7, Option.bind_some, show S.dyad_Compare _ = _ from t8, Option.bind_some, ct g2, show S.dyad_Sign _ = _ from t9, Option.bind_some, show S.ratio_Sign _ = _ from t10, Option.bind_some, decide_eq_true rfl]
/-- girdlelaw05.DyadHalves -/
def w05_DyadHalves (a : (Bool × (List Int) × Unit) × Int × Unit) (b : (Bool × (List Int) × Unit) × Int × Unit) : Option (Bool × Unit) :=
  (S.w05_halves (())).bind fun z1 =>
  cond (!z1.1) (some (false, ()))
    (
      (S.w05_fit ([((a.1.1, a.1.2.1, ()), a.2.1, ()), ((b.1.1, b.1.2.1, ()), b.2.1, ())], ())).bind fun z2 =>
      cond (!z2.1) (some (true, ()))
        (
          (S.dyad_Of (1, (-1 : Int), ())).bind fun z3 =>
          (S.dyad_Add (((a.1.1, a.1.2.1, ()), a.2.1, ()), ((b.1.1, b.1.2.1, ()), b.2.1, ()), ())).bind fun z4 =>
          (S.dyad_Mul (((z4.1.1.1, z4.1.1.2.1, ()), z4.1.2.1, ()), ((z3.1.1.1, z3.1.1.2.1, ()), z3.1.2.1, ()), ())).bind fun z5 =>
          (S.dyad_Sub (((z5.1.1.1, z5.1.1.2.1, ()), z5.1.2.1, ()), ((a.1.1, a.1.2.1, ()), a.2.1, ()), ())).bind fun z6 =>
          (S.dyad_Sub (((b.1.1, b.1.2.1, ()), b.2.1, ()), ((z5.1.1.1, z5.1.1.2.1, ()), z5.1.2.1, ()), ())).bind fun z7 =>
          (S.dyad_Of (1, 1, ())).bind fun z8 =>
          (S.dyad_Mul (((z5.1.1.1, z5.1.1.2.1, ()), z5.1.2.1, ()), ((z8.1.1.1, z8.1.1.2.1, ()), z8.1.2.1, ()), ())).bind fun z9 =>
          cond (decide (z4.2.1 = 0))
            (
              cond (decide (z5.2.1 = 0))
                (
                  cond (decide (z6.2.1 = 0))
                    (
                      cond (decide (z7.2.1 = 0))
                        (
                          cond (decide (z9.2.1 = 0))
                            (
                              (S.dyad_Compare (((z6.1.1.1, z6.1.1.2.1, ()), z6.1.2.1, ()), ((z7.1.1.1, z7.1.1.2.1, ()), z7.1.2.1, ()), ())).bind fun z10 =>
                              cond (decide (z10.1 = 0))
                                (
                                  (S.dyad_Compare (((z9.1.1.1, z9.1.1.2.1, ()), z9.1.2.1, ()), ((z4.1.1.1, z4.1.1.2.1, ()), z4.1.2.1, ()), ())).bind fun z11 =>
                                  cond (decide (z11.1 = 0))
                                    (
                                      (S.dyad_Sign (((z6.1.1.1, z6.1.1.2.1, ()), z6.1.2.1, ()), ())).bind fun z12 =>
                                      (S.dyad_Compare (((b.1.1, b.1.2.1, ()), b.2.1, ()), ((a.1.1, a.1.2.1, ()), a.2.1, ()), ())).bind fun z13 =>
                                      some (decide (z12.1 = z13.1), ())) (some (false, ()))) (some (false, ()))) (some (false, ()))) (some (false, ()))) (some (false, ()))) (some (false, ()))) (some (false, ()))))

theorem dyad_Of_one {e : Int} (h0 : -100 ≤ e) (h1 : e ≤ 100) : S.dyad_Of (1, e, ()) = some (Yd 1 e, ()) := by
  have e1 : S.whole_Of (1, ()) = some (I 1, ()) := whole_Of_I (by decide) (by decide)
  have e2 := dyad_Make_Yd (x := 1) (e := e) (k := 1) (P_one 1 (by decide)) (by decide) (by omega) (by omega)
  have e0 : ∀ n e : Int, S.dyad_Of (n, e, ()) = (S.whole_Of (n, ())).bind fun z1 => (S.dyad_Make (z1.1, (min (max e (-100 : Int)) 100), ())).bind fun z4 => some (z4.1, ()) := fun _ _ => rfl
  rw [e0, e1, Option.bind_some, show min (max e (-100 : Int)) 100 = e by omega, e2, Option.bind_some]
theorem DyadHalves_true {a b : DY} (ha : inY a) (hb : inY b) : w05_DyadHalves a b = some (true, ()) := by
  unfold w05_DyadHalves
  rw [w05_halves_true, Option.bind_some]
  simp only [Bool.not_true, cond_false]
  rcases w05_fit2 ha hb with e | ⟨e, ⟨x, rfl, hx⟩, y, rfl, hy⟩
  · rw [show S.w05_fit _ = _ from e]; rfl
  rw [show S.w05_fit _ = _ from e, Option.bind_some]
  simp only [Bool.not_true, cond_false]
  have one : (1 : Int).natAbs < P 1 := P_one 1 (by decide)
  have two : (2 : Int).natAbs < P 1 := by decide
  have hs := nA_add hx hy
  have hx2 : (x * 2).natAbs < P 35 := nA_mul hx two
  have hy2 : (y * 2).natAbs < P 35 := nA_mul hy two
  have ex : Yd x (-((300 : Nat) : Int)) = Yd (x * 2) (-301) := by
    have := (Yd_scale x 1 (-301)).symm
    rw [Int.pow_one] at this
    exact this
  have ey : Yd y (-((300 : Nat) : Int)) = Yd (y * 2) (-301) := by
    have := (Yd_scale y 1 (-301)).symm
    rw [Int.pow_one] at this
    exact this
  have s1 := dyad_Add_Yd (e := -((300 : Nat) : Int)) hx hy (by decide) (by decide) (by decide)
  have s2 := dyad_Mul_Yd (e := -((300 : Nat) : Int)) (f := -1) hs one (by decide) (by decide) (by decide) (by decide) (by decide)
  rw [Int.mul_one, show -((300 : Nat) : Int) + -1 = -301 from rfl] at s2
  have hs1 : (x + y).natAbs < P 35 := hs
  have s3 := dyad_Sub_Yd (e := -301) hs1 hx2 (by decide) (by decide) (by decide)
  have s4 := dyad_Sub_Yd (e := -301) hy2 hs1 (by decide) (by decide) (by decide)
  have s5 := dyad_Mul_Yd (e := -301) (f := 1) hs one (by decide) (by decide) (by decide) (by decide) (by decide)
  rw [Int.mul_one, show (-301 : Int) + 1 = -((300 : Nat) : Int) from rfl] at s5
  rw [← ex] at s3
  rw [← ey] at s4
  have g : x + y - x * 2 = y - x := by omega
  have g' : y * 2 - (x + y) = y - x := by omega
  rw [g] at s3
  rw [g'] at s4
  have hd : (y - x).natAbs < P 35 := by rw [Int.sub_eq_add_neg]; exact nA_add hy (by rw [Int.natAbs_neg]; exact hx)
  have c1 := dyad_Compare_Yd (e := -301) hd hd (by decide) (by decide) (by decide)
  have c2 := dyad_Compare_Yd (e := -((300 : Nat) : Int)) hs hs (by decide) (by decide) (by decide)
  have c3 := dyad_Compare_Yd (e := -((300 : Nat) : Int)) hy hx (by decide) (by decide) (by decide)
  have c4 := dyad_Sign_Yd (y - x) (-301)
  rw [sgn_self] at c1 c2
  have hsg : sgn (y - x) 0 = sgn y x := by unfold sgn; split <;> (try split) <;> (try split) <;> omega
  rw [hsg] at c4
  rw [dyad_Of_one (by decide) (by decide), Option.bind_some, show S.dyad_Add _ = _ from s1, Option.bind_some, show S.dyad_Mul _ = _ from s2, Option.bind_some, show S.dyad_Sub _ = _ from s3, Option.bind_some, show S.dyad_Sub _ = _ from s4, Option.bind_some, dyad_Of_one (by decide) (by decide), Option.bind_some, show S.dyad_Mul _ = _ from s5, Option.bind_some]
  simp only [decide_true, cond_true]
  rw [show S.dyad_Compare _ = _ from c1, Option.bind_some]
  simp only [decide_true, cond_true]
  rw [show S.dyad_Compare _ = _ from c2, Option.bind_some]
  simp only [decide_true, cond_true]
  rw [show S.dyad_Sign _ = _ from c4, Option.bind_some, show S.dyad_Compare _ = _ from c3, Option.bind_some, decide_eq_true rfl]
end Go.L

/-! VB -/
namespace Go.L
open Go.PM
set_option exponentiation.threshold 20000
set_option linter.unusedVariables false
set_option linter.unusedSimpArgs false

theorem dyad_Check_Y {a f : Int} (ha : a.natAbs < P 512) (h : cn a f) (h0 : -65536 ≤ f) (h1 : f ≤ 65536) : S.dyad_Check ((I a, f, ()), ()) = some (0, ()) := by
  have hc' : S.whole_Check (I a, ()) = some (0, ()) := whole_Check_I ha
  have hodd := D_odd a
  simp only [I] at hc'
  simp only [S.dyad_Check, L.dyad_Check, I, hc', Option.bind_some, decide_true, Bool.not_true, cond_false, D_len_pos]
  by_cases h0 : a = 0
  · subst h0
    have hf0 : f = 0 := by rcases h with h | h <;> omega
    subst hf0
    rfl
  · have h1 : a % 2 = 1 := by rcases h with h | h <;> omega
    rw [decide_eq_true (show 0 < a.natAbs by omega)]
    simp only [cond_true]
    rw [cf (by omega), cf (by omega), decide_eq_true (hodd.2 h1)]
    rfl
/-- A number times a power of 2, whatever the power. -/
theorem dyad_Make_all {x e : Int} {k : Nat} (hx : x.natAbs < P k) (hk : k ≤ 511) (hx0 : x ≠ 0) (h0 : -9223372036854775808 ≤ e) (h1 : e < 9223372036854775808) : S.dyad_Make (I x, e, ()) = some (if 65536 < e ∨ e < -65536 ∨ 65536 < e + tzN x.natAbs then (dy0, 1, ()) else (Yd x e, 0, ())) := by
  simp only [S.dyad_Make, L.dyad_Make]
  have hxk : x.natAbs < P 1000 := P1000 hx (by omega)
  have hx5 : x.natAbs < P 511 := Nat.lt_of_lt_of_le hx (P_mono hk)
  obtain ⟨t, ht, htail⟩ := Tail_D hxk (show x.natAbs ≠ 0 by omega)
  have htz := tzN_tail (show x.natAbs ≠ 0 by omega) htail
  have htl := tzN_lt hx
  have e2 := whole_Right_I (n := t) hx5 (by omega)
  have e3 := whole_Sign_I (od x)
  have hod : x / 2 ^ t = od x := by unfold od; rw [htz]
  have s1 := sgn0 (od x)
  have hne : od x ≠ 0 := fun h => hx0 (od_eq.1 h)
  rw [hod] at e2
  rw [Yd_ne hx0, htz]
  simp only [I] at e2 e3 ⊢
  rw [ht, Option.bind_some]
  simp only
  rw [e2, Option.bind_some]
  simp only
  rw [e3, Option.bind_some]
  simp only
  rw [cf (by omega)]
  by_cases g1 : 65536 < e
  · rw [ct g1, if_pos (.inl g1)]
  rw [cf g1]
  by_cases g2 : e < -65536
  · rw [ct g2, if_pos (.inr (.inl g2))]
  rw [cf g2, wi64 (by omega) (by omega)]
  by_cases g3 : 65536 < e + t
  · rw [ct g3, if_pos (.inr (.inr g3))]
  · rw [cf g3, if_neg (by omega)]
/-- girdlelaw05.DyadMakes -/
def w05_DyadMakes (m : Bool × (List Int) × Unit) (exp : Int) : Option (Bool × Unit) :=
  (S.w05_halves (())).bind fun z1 =>
  cond (!z1.1) (some (false, ()))
    (
      cond (decide (15 < (m.2.1.length : Int))) (some (true, ()))
        (
          (S.whole_Check ((m.1, m.2.1, ()), ())).bind fun z2 =>
          cond (!(decide (z2.1 = 0))) (some (true, ()))
            (
              (S.dyad_Make ((m.1, m.2.1, ()), exp, ())).bind fun z3 =>
              (S.whole_Sign ((m.1, m.2.1, ()), ())).bind fun z4 =>
              cond (decide (z4.1 = 0))
                (
                  cond (decide (z3.2.1 = 0))
                    (
                      (S.dyad_Sign (((z3.1.1.1, z3.1.1.2.1, ()), z3.1.2.1, ()), ())).bind fun z5 =>
                      cond (decide (z5.1 = 0)) (some (decide (z3.1.2.1 = 0), ())) (some (false, ()))) (some (false, ())))
                (
                  cond (decide (65536 < exp))
                    (
                      cond (decide (z3.2.1 = 1))
                        (
                          (S.dyad_Sign (((z3.1.1.1, z3.1.1.2.1, ()), z3.1.2.1, ()), ())).bind fun z6 =>
                          some (decide (z6.1 = 0), ())) (some (false, ())))
                    (
                      cond (decide (exp < (-65536 : Int)))
                        (
                          cond (decide (z3.2.1 = 1))
                            (
                              (S.dyad_Sign (((z3.1.1.1, z3.1.1.2.1, ()), z3.1.2.1, ()), ())).bind fun z7 =>
                              some (decide (z7.1 = 0), ())) (some (false, ())))
                        (
                          (S.limbs_Tail (m.2.1, ())).bind fun z8 =>
                          cond (decide (65536 < (IntKind.i64.wrap (exp + z8.1))))
                            (
                              cond (decide (z3.2.1 = 1))
                                (
                                  (S.dyad_Sign (((z3.1.1.1, z3.1.1.2.1, ()), z3.1.2.1, ()), ())).bind fun z10 =>
                                  some (decide (z10.1 = 0), ())) (some (false, ())))
                            (
                              (S.whole_Left ((z3.1.1.1, z3.1.1.2.1, ()), (IntKind.i64.wrap (z3.1.2.1 - exp)), ())).bind fun z12 =>
                              cond (decide (z3.2.1 = 0))
                                (
                                  cond (decide (z12.2.1 = 0))
                                    (
                                      (S.whole_Same ((z12.1.1, z12.1.2.1, ()), (m.1, m.2.1, ()), ())).bind fun z13 =>
                                      cond (z13.1)
                                        (
                                          (S.dyad_Check (((z3.1.1.1, z3.1.1.2.1, ()), z3.1.2.1, ()), ())).bind fun z14 =>
                                          some (decide (z14.1 = 0), ())) (some (false, ()))) (some (false, ()))) (some (false, ())))))))))

theorem DyadMakes_true {m : Bool × List Int × Unit} {e : Int} (hm : inI m) (h0 : -9223372036854775808 ≤ e) (h1 : e < 9223372036854775808) : w05_DyadMakes m e = some (true, ()) := by
  unfold w05_DyadMakes
  rw [w05_halves_true, Option.bind_some]
  simp only [Bool.not_true, cond_false]
  by_cases h15 : 15 < m.2.1.length
  · rw [ct (by omega)]
  rw [cf (by omega)]
  obtain ⟨c, hc⟩ := whole_Check_some hm
  rw [show S.whole_Check _ = _ from hc, Option.bind_some]
  by_cases hcn : ¬ c = 0
  · simp only; rw [decide_eq_false hcn]; rfl
  have hc0 : c = 0 := Decidable.not_not.1 hcn
  subst hc0
  obtain ⟨z, rfl, hz⟩ := whole_Check_in hm.2 hm.1 hc
  simp only at h15
  have hz15 : z.natAbs < P 15 := Nat.lt_of_lt_of_le (dlen_lt z.natAbs) (P_mono (by omega))
  simp only [decide_true, Bool.not_true, cond_false]
  by_cases hz0 : z = 0
  · subst hz0
    have e1 : S.dyad_Make (I 0, e, ()) = some (dy0, 0, ()) := by
      have e1 : S.limbs_Tail (D (Int.natAbs 0), ()) = some (0, ()) := rfl
      have e2 : S.whole_Right (I 0, ((0 : Nat) : Int), ()) = some (I (0 / 2 ^ 0), 0, ()) := whole_Right_I (P_pos 511) (by decide)
      have e3 := whole_Sign_I 0
      rw [Int.zero_ediv] at e2
      simp only [S.dyad_Make, L.dyad_Make, I] at e1 e2 e3 ⊢
      rw [e1, Option.bind_some]
      simp only
      rw [show (0 : Int) = ((0 : Nat) : Int) from rfl] at *
      rw [e2, Option.bind_some]
      simp only
      rw [e3, Option.bind_some]
      rfl
    have e4 := whole_Sign_I 0
    have e5 : S.dyad_Sign (((false, [], ()), 0, ()), ()) = some (0, ()) := dyad_Sign_Y 0 0
    rw [show S.dyad_Make _ = _ from e1, Option.bind_some, show S.whole_Sign _ = _ from e4, Option.bind_some, ct (by decide)]
    simp only [decide_true, cond_true]
    rw [e5, Option.bind_some]
    rfl
  · have e1 := dyad_Make_all hz15 (by decide) hz0 h0 h1
    have e2 := whole_Sign_I z
    have s2 := sgn0 z
    have htl := tzN_lt hz15
    rw [show S.dyad_Make _ = _ from e1, Option.bind_some, show S.whole_Sign _ = _ from e2, Option.bind_some, cf (by simp only; omega)]
    have e5 : S.dyad_Sign (((false, [], ()), 0, ()), ()) = some (0, ()) := dyad_Sign_Y 0 0
    by_cases g1 : 65536 < e
    · rw [if_pos (.inl g1), ct g1]
      simp only [decide_true, cond_true]
      rw [e5, Option.bind_some]
      rfl
    rw [cf g1]
    by_cases g2 : e < -65536
    · rw [if_pos (.inr (.inl g2)), ct g2]
      simp only [decide_true, cond_true]
      rw [e5, Option.bind_some]
      rfl
    rw [cf g2]
    obtain ⟨t, ht, htail⟩ := Tail_D (P1000 hz15 (by decide)) (show z.natAbs ≠ 0 by omega)
    have htz := tzN_tail (show z.natAbs ≠ 0 by omega) htail
    rw [show S.limbs_Tail _ = _ from ht, Option.bind_some]
    simp only
    rw [wi64 (x := e + t) (by omega) (by omega)]
    by_cases g3 : 65536 < e + t
    · rw [if_pos (.inr (.inr (by omega))), ct g3]
      simp only [decide_true, cond_true]
      rw [e5, Option.bind_some]
      rfl
    rw [if_neg (by omega), cf g3]
    have hod := od_mul z
    rw [htz] at hod
    have hle : (od z).natAbs * 2 ^ t = z.natAbs := by
      have := congrArg Int.natAbs hod
      rw [Int.natAbs_mul, pow_cast, Int.natAbs_natCast] at this
      exact this
    have hoz := Yd_abs hz15
    have e6 := whole_Left_J (a := od z) (n := t) (P40 hoz (by decide)) (by rw [hle]; exact P40 hz15 (by decide)) (by omega)
    rw [hod] at e6
    have e7 := whole_Same_I (a := z) (b := z) (P1000 hz15 (by decide)) (P1000 hz15 (by decide))
    have e8 := dyad_Check_Y (a := od z) (f := e + t) (P40 hoz (by decide)) (.inl (od_is hz0)) (by omega) (by omega)
    rw [Yd_ne hz0, htz]
    simp only
    rw [wi64 (x := e + t - e) (by omega) (by omega), show e + (t : Int) - e = t by omega, show S.whole_Left _ = _ from e6, Option.bind_some]
    simp only [decide_true, cond_true]
    rw [show S.whole_Same _ = _ from e7, Option.bind_some]
    simp only [decide_true, cond_true]
    rw [show S.dyad_Check _ = _ from e8, Option.bind_some]
    rfl
/-- girdlelaw05.few -/
def w05_few (a : (Bool × (List Int) × Unit) × Int × Unit) (bits : Int) : Option (Bool × Unit) :=
  (S.limbs_Bits (a.1.2.1, ())).bind fun z1 =>
  some (decide (z1.1 ≤ bits), ())

def S.w05_few (x : DY × Int × Unit) : Option (Bool × Unit) := L.w05_few x.1 x.2.1
theorem w05_few_Yd {x e : Int} {b k : Nat} (hx : x.natAbs < P k) (hk : k ≤ 1000) : S.w05_few (Yd x e, (b : Int), ()) = some (decide (bl (od x) ≤ b), ()) := by
  have e0 : ∀ (a : DY) (b : Int), S.w05_few (a, b, ()) = (S.limbs_Bits (a.1.2.1, ())).bind fun z1 => some (decide (z1.1 ≤ b), ()) := fun _ _ => rfl
  have h : S.limbs_Bits ((Yd x e).1.2.1, ()) = some ((bl (od x) : Int), ()) := Bits_I (x := od x) (P1000 (Yd_abs hx) hk)
  rw [e0, h, Option.bind_some]
  congr 2
  exact decide_eq_decide.2 (by omega)
theorem bl_mono {x : Int} {b : Nat} (h : x.natAbs < 2 ^ b) : bl x ≤ b := by
  by_cases h0 : x = 0
  · subst h0; simp [bl]
  · have h1 := bl_lo h0
    have := (Nat.pow_lt_pow_iff_right (show 1 < 2 by decide)).1 (Nat.lt_of_le_of_lt h1.1 h)
    omega
theorem bl_od_le (x : Int) : bl (od x) ≤ bl x := by
  by_cases h : x = 0
  · subst h; rw [od_zero]; exact Nat.le_refl _
  · rw [bl_od h]; omega
theorem few_bl {z : Int} {b : Nat} (hb : 1 ≤ b) (h : few b z) : bl (od z) ≤ b := by
  obtain ⟨m, j, rfl, hm⟩ := h
  rw [od_scale]
  rcases Nat.lt_or_ge m.natAbs (2 ^ b) with h | h
  · exact Nat.le_trans (bl_od_le m) (bl_mono h)
  · have hm' : m.natAbs = 2 ^ b := by omega
    have : m = 1 * 2 ^ b ∨ m = -1 * 2 ^ b := by rw [pow_cast]; omega
    rcases this with e | e <;> rw [e, od_scale]
    · rw [od_odd (by decide)]; exact Nat.le_trans (show bl 1 ≤ 1 by decide) hb
    · rw [od_odd (by decide)]; exact Nat.le_trans (show bl (-1) ≤ 1 by decide) hb
theorem bl_few {z : Int} {b : Nat} (h : bl (od z) ≤ b) : few b z := by
  refine ⟨od z, tzN z.natAbs, (od_mul z).symm, ?_⟩
  have h1 := bl_hi (od z)
  have h2 : 2 ^ bl (od z) ≤ 2 ^ b := Nat.pow_le_pow_right (by decide) h
  omega
theorem rnd_few (up : Bool) (x : Int) (b : Nat) : few b (rnd up x b) := by
  cases up
  · exact rdn_few x b
  · exact few_neg (rdn_few (-x) b)
theorem rnd_same {up : Bool} {x : Int} {b : Nat} (hb : 1 ≤ b) (h : few b x) : rnd up x b = x := by
  cases up
  · have h1 := rdn_max hb h (Int.le_refl x)
    have h2 := rdn_le x b
    show rdn x b = x
    omega
  · have h1 := rup_min hb h (Int.le_refl x)
    have h2 := rup_ge x b
    show rup x b = x
    omega
/-- girdlelaw05.DyadRounds -/
def w05_DyadRounds (a : (Bool × (List Int) × Unit) × Int × Unit) (bits : Int) (up : Bool) : Option (Bool × Unit) :=
  (S.w05_halves (())).bind fun z1 =>
  cond (!z1.1) (some (false, ()))
    (
      (S.w05_fit ([((a.1.1, a.1.2.1, ()), a.2.1, ())], ())).bind fun z2 =>
      cond (!z2.1) (some (true, ()))
        (
          (S.dyad_Round (((a.1.1, a.1.2.1, ()), a.2.1, ()), bits, up, ())).bind fun z3 =>
          cond (decide (bits < 2)) (some (decide (z3.2.1 = 1), ()))
            (
              cond (decide (4096 < bits)) (some (decide (z3.2.1 = 1), ()))
                (
                  cond (!(decide (z3.2.1 = 0))) (some (false, ()))
                    (
                      (S.w05_few (((z3.1.1.1, z3.1.1.2.1, ()), z3.1.2.1, ()), bits, ())).bind fun z4 =>
                      cond (!z4.1) (some (false, ()))
                        (
                          (S.dyad_Check (((z3.1.1.1, z3.1.1.2.1, ()), z3.1.2.1, ()), ())).bind fun z5 =>
                          cond (!(decide (z5.1 = 0))) (some (false, ()))
                            (
                              (S.dyad_Compare (((z3.1.1.1, z3.1.1.2.1, ()), z3.1.2.1, ()), ((a.1.1, a.1.2.1, ()), a.2.1, ()), ())).bind fun z6 =>
                              (S.w05_few (((a.1.1, a.1.2.1, ()), a.2.1, ()), bits, ())).bind fun z7 =>
                              cond (z7.1) (some (decide (z6.1 = 0), ()))
                                (
                                  cond (up)
                                    (
                                      cond (decide (z6.1 < 0)) (some (false, ()))
                                        (
                                          cond (!up)
                                            (
                                              cond (decide (0 < z6.1)) (some (false, ()))
                                                (
                                                  (S.whole_Of (1, ())).bind fun z8 =>
                                                  (S.limbs_Bits (a.1.2.1, ())).bind fun z9 =>
                                                  (S.dyad_Make ((z8.1.1, z8.1.2.1, ()), (IntKind.i64.wrap ((IntKind.i64.wrap (a.2.1 + z9.1)) - bits)), ())).bind fun z12 =>
                                                  cond (!up)
                                                    (
                                                      (S.dyad_Add (((z3.1.1.1, z3.1.1.2.1, ()), z3.1.2.1, ()), ((z12.1.1.1, z12.1.1.2.1, ()), z12.1.2.1, ()), ())).bind fun z13 =>
                                                      cond (decide (z12.2.1 = 0))
                                                        (
                                                          cond (decide (z13.2.1 = 0))
                                                            (
                                                              (S.dyad_Less (((a.1.1, a.1.2.1, ()), a.2.1, ()), ((z13.1.1.1, z13.1.1.2.1, ()), z13.1.2.1, ()), ())).bind fun z14 =>
                                                              some (z14.1, ())) (some (false, ()))) (some (false, ())))
                                                    (
                                                      (S.dyad_Sub (((z3.1.1.1, z3.1.1.2.1, ()), z3.1.2.1, ()), ((z12.1.1.1, z12.1.1.2.1, ()), z12.1.2.1, ()), ())).bind fun z15 =>
                                                      cond (decide (z12.2.1 = 0))
                                                        (
                                                          cond (decide (z15.2.1 = 0))
                                                            (
                                                              (S.dyad_Less (((z15.1.1.1, z15.1.1.2.1, ()), z15.1.2.1, ()), ((a.1.1, a.1.2.1, ()), a.2.1, ()), ())).bind fun z16 =>
                                                              some (z16.1, ())) (some (false, ()))) (some (false, ())))))
                                            (
                                              (S.whole_Of (1, ())).bind fun z17 =>
                                              (S.limbs_Bits (a.1.2.1, ())).bind fun z18 =>
                                              (S.dyad_Make ((z17.1.1, z17.1.2.1, ()), (IntKind.i64.wrap ((IntKind.i64.wrap (a.2.1 + z18.1)) - bits)), ())).bind fun z21 =>
                                              cond (!up)
                                                (
                                                  (S.dyad_Add (((z3.1.1.1, z3.1.1.2.1, ()), z3.1.2.1, ()), ((z21.1.1.1, z21.1.1.2.1, ()), z21.1.2.1, ()), ())).bind fun z22 =>
                                                  cond (decide (z21.2.1 = 0))
                                                    (
                                                      cond (decide (z22.2.1 = 0))
                                                        (
                                                          (S.dyad_Less (((a.1.1, a.1.2.1, ()), a.2.1, ()), ((z22.1.1.1, z22.1.1.2.1, ()), z22.1.2.1, ()), ())).bind fun z23 =>
                                                          some (z23.1, ())) (some (false, ()))) (some (false, ())))
                                                (
                                                  (S.dyad_Sub (((z3.1.1.1, z3.1.1.2.1, ()), z3.1.2.1, ()), ((z21.1.1.1, z21.1.1.2.1, ()), z21.1.2.1, ()), ())).bind fun z24 =>
                                                  cond (decide (z21.2.1 = 0))
                                                    (
                                                      cond (decide (z24.2.1 = 0))
                                                        (
                                                          (S.dyad_Less (((z24.1.1.1, z24.1.1.2.1, ()), z24.1.2.1, ()), ((a.1.1, a.1.2.1, ()), a.2.1, ()), ())).bind fun z25 =>
                                                          some (z25.1, ())) (some (false, ()))) (some (false, ()))))))
                                    (
                                      cond (!up)
                                        (
                                          cond (decide (0 < z6.1)) (some (false, ()))
                                            (
                                              (S.whole_Of (1, ())).bind fun z26 =>
                                              (S.limbs_Bits (a.1.2.1, ())).bind fun z27 =>
                                              (S.dyad_Make ((z26.1.1, z26.1.2.1, ()), (IntKind.i64.wrap ((IntKind.i64.wrap (a.2.1 + z27.1)) - bits)), ())).bind fun z30 =>
                                              cond (!up)
                                                (
                                                  (S.dyad_Add (((z3.1.1.1, z3.1.1.2.1, ()), z3.1.2.1, ()), ((z30.1.1.1, z30.1.1.2.1, ()), z30.1.2.1, ()), ())).bind fun z31 =>
                                                  cond (decide (z30.2.1 = 0))
                                                    (
                                                      cond (decide (z31.2.1 = 0))
                                                        (
                                                          (S.dyad_Less (((a.1.1, a.1.2.1, ()), a.2.1, ()), ((z31.1.1.1, z31.1.1.2.1, ()), z31.1.2.1, ()), ())).bind fun z32 =>
                                                          some (z32.1, ())) (some (false, ()))) (some (false, ())))
                                                (
                                                  (S.dyad_Sub (((z3.1.1.1, z3.1.1.2.1, ()), z3.1.2.1, ()), ((z30.1.1.1, z30.1.1.2.1, ()), z30.1.2.1, ()), ())).bind fun z33 =>
                                                  cond (decide (z30.2.1 = 0))
                                                    (
                                                      cond (decide (z33.2.1 = 0))
                                                        (
                                                          (S.dyad_Less (((z33.1.1.1, z33.1.1.2.1, ()), z33.1.2.1, ()), ((a.1.1, a.1.2.1, ()), a.2.1, ()), ())).bind fun z34 =>
                                                          some (z34.1, ())) (some (false, ()))) (some (false, ())))))
                                        (
                                          (S.whole_Of (1, ())).bind fun z35 =>
                                          (S.limbs_Bits (a.1.2.1, ())).bind fun z36 =>
                                          (S.dyad_Make ((z35.1.1, z35.1.2.1, ()), (IntKind.i64.wrap ((IntKind.i64.wrap (a.2.1 + z36.1)) - bits)), ())).bind fun z39 =>
                                          cond (!up)
                                            (
                                              (S.dyad_Add (((z3.1.1.1, z3.1.1.2.1, ()), z3.1.2.1, ()), ((z39.1.1.1, z39.1.1.2.1, ()), z39.1.2.1, ()), ())).bind fun z40 =>
                                              cond (decide (z39.2.1 = 0))
                                                (
                                                  cond (decide (z40.2.1 = 0))
                                                    (
                                                      (S.dyad_Less (((a.1.1, a.1.2.1, ()), a.2.1, ()), ((z40.1.1.1, z40.1.1.2.1, ()), z40.1.2.1, ()), ())).bind fun z41 =>
                                                      some (z41.1, ())) (some (false, ()))) (some (false, ())))
                                            (
                                              (S.dyad_Sub (((z3.1.1.1, z3.1.1.2.1, ()), z3.1.2.1, ()), ((z39.1.1.1, z39.1.1.2.1, ()), z39.1.2.1, ()), ())).bind fun z42 =>
                                              cond (decide (z39.2.1 = 0))
                                                (
                                                  cond (decide (z42.2.1 = 0))
                                                    (
                                                      (S.dyad_Less (((z42.1.1.1, z42.1.1.2.1, ()), z42.1.2.1, ()), ((a.1.1, a.1.2.1, ()), a.2.1, ()), ())).bind fun z43 =>
                                                      some (z43.1, ())) (some (false, ()))) (some (false, ())))))))))))))

theorem DyadRounds_true {a : DY} {bits : Int} {up : Bool} (ha : inY a) (h0 : -9223372036854775808 ≤ bits) (h1 : bits < 9223372036854775808) : w05_DyadRounds a bits up = some (true, ()) := by
  unfold w05_DyadRounds
  rw [w05_halves_true, Option.bind_some]
  simp only [Bool.not_true, cond_false]
  rcases w05_fit1 ha with e | ⟨e, x, rfl, hx⟩
  · rw [show S.w05_fit _ = _ from e]; rfl
  rw [show S.w05_fit _ = _ from e, Option.bind_some]
  simp only [Bool.not_true, cond_false]
  by_cases hb : bits < 2
  · rw [show S.dyad_Round _ = _ from Round_no (a := Yd x (-((300 : Nat) : Int))) (up := up) (.inl hb), Option.bind_some, ct hb]; rfl
  by_cases hb' : 4096 < bits
  · rw [show S.dyad_Round _ = _ from Round_no (a := Yd x (-((300 : Nat) : Int))) (up := up) (.inr hb'), Option.bind_some, cf hb, ct hb']; rfl
  obtain ⟨b, rfl⟩ : ∃ b : Nat, bits = b := ⟨bits.toNat, by omega⟩
  have r1 := dyad_Round_Yd (e := -((300 : Nat) : Int)) (b := b) (up := up) hx (by decide) (by decide) (by decide) (by omega) (by omega)
  have hr := rnd_abs (up := up) (b := b) hx
  have hx35 := nA_up hx (show 34 ≤ 35 by decide)
  have f1 := w05_few_Yd (e := -((300 : Nat) : Int)) (b := b) hr (by decide)
  have f2 := w05_few_Yd (e := -((300 : Nat) : Int)) (b := b) hx (by decide)
  have c1 := dyad_Check_Yd (e := -((300 : Nat) : Int)) hr (by decide) (by decide) (by decide)
  have c2 := dyad_Compare_Yd (e := -((300 : Nat) : Int)) hr hx35 (by decide) (by decide) (by decide)
  rw [decide_eq_true (few_bl (by omega) (rnd_few up x b))] at f1
  rw [show S.dyad_Round _ = _ from r1, Option.bind_some, cf hb, cf hb']
  simp only [decide_true, Bool.not_true, cond_false]
  rw [show S.w05_few _ = _ from f1, Option.bind_some]
  simp only [Bool.not_true, cond_false]
  rw [show S.dyad_Check _ = _ from c1, Option.bind_some]
  simp only [decide_true, Bool.not_true, cond_false]
  rw [show S.dyad_Compare _ = _ from c2, Option.bind_some, show S.w05_few _ = _ from f2, Option.bind_some]
  simp only
  by_cases hf : bl (od x) ≤ b
  · rw [ct hf, rnd_same (by omega) (bl_few hf), sgn_self]; rfl
  rw [cf hf]
  have hx0 : x ≠ 0 := by intro e; subst e; rw [od_zero] at hf; exact hf (by simp [bl])
  have hbl := bl_od hx0
  have hblx := bl_P hx
  have e1 : S.whole_Of (1, ()) = some (I 1, ()) := whole_Of_I (by decide) (by decide)
  have e2 : S.limbs_Bits ((Yd x (-((300 : Nat) : Int))).1.2.1, ()) = some ((bl (od x) : Int), ()) := Bits_I (x := od x) (P1000 (Yd_abs hx) (by decide))
  obtain ⟨v, hv⟩ : ∃ v : Nat, bl x = v + b := ⟨bl x - b, by omega⟩
  have hexp : (Yd x (-((300 : Nat) : Int))).2.1 = -((300 : Nat) : Int) + tzN x.natAbs := by rw [Yd_ne hx0]
  have e3 : S.dyad_Make (I 1, (-((300 : Nat) : Int) + tzN x.natAbs + bl (od x) - b), ()) = some (Yd (2 ^ v) (-((300 : Nat) : Int)), 0, ()) := by
    have h := dyad_Make_Yd (x := 1) (e := -((300 : Nat) : Int) + tzN x.natAbs + bl (od x) - b) (k := 1) (P_one 1 (by decide)) (by decide) (by omega) (by omega)
    have h2 := Yd_scale 1 v (-((300 : Nat) : Int))
    rw [Int.one_mul] at h2
    rw [h, h2]
    congr 3
    omega
  have hw : IntKind.i64.wrap ((IntKind.i64.wrap ((Yd x (-((300 : Nat) : Int))).2.1 + bl (od x))) - b) = -((300 : Nat) : Int) + tzN x.natAbs + bl (od x) - b := by
    have ht := tzN_lt hx
    rw [hexp, wi64 (x := -((300 : Nat) : Int) + tzN x.natAbs + bl (od x)) (by omega) (by omega), wi64 (by omega) (by omega)]
  have h2v : ((2 : Int) ^ v).natAbs < P 35 := by
    rw [pow_cast, Int.natAbs_natCast]; exact two_P (by omega)
  have hvb : bl x - b = v := by omega
  have l1 := rdn_lt x b
  have l2 := rup_lt x b
  have l3 := rdn_le x b
  have l4 := rup_ge x b
  rw [hvb] at l1 l2
  have hx36 := nA_up hx (show 34 ≤ 36 by decide)
  cases up with
  | false =>
    have hrv : rnd false x b = rdn x b := rfl
    rw [hrv] at hr ⊢
    have s0 : ¬ (0 < sgn (rdn x b) x) := by unfold sgn; split <;> (try split) <;> omega
    have e4 := dyad_Add_Yd (e := -((300 : Nat) : Int)) hr h2v (by decide) (by decide) (by decide)
    have e5 := dyad_Less_Yd (e := -((300 : Nat) : Int)) hx36 (nA_add hr h2v) (by decide) (by decide) (by decide)
    rw [decide_eq_true l1] at e5
    simp only [cond_false, Bool.not_false, cond_true]
    rw [cf s0, e1, Option.bind_some, e2, Option.bind_some]
    simp only
    rw [hw, show S.dyad_Make _ = _ from e3, Option.bind_some, show S.dyad_Add _ = _ from e4, Option.bind_some]
    simp only [decide_true, cond_true]
    rw [show S.dyad_Less _ = _ from e5, Option.bind_some]
  | true =>
    have hrv : rnd true x b = rup x b := rfl
    rw [hrv] at hr ⊢
    have s0 : ¬ (sgn (rup x b) x < 0) := by unfold sgn; split <;> (try split) <;> omega
    have e4 := dyad_Sub_Yd (e := -((300 : Nat) : Int)) hr h2v (by decide) (by decide) (by decide)
    have hs : (rup x b - 2 ^ v).natAbs < P 36 := by rw [Int.sub_eq_add_neg]; exact nA_add hr (by rw [Int.natAbs_neg]; exact h2v)
    have e5 := dyad_Less_Yd (e := -((300 : Nat) : Int)) hs hx36 (by decide) (by decide) (by decide)
    rw [decide_eq_true (show rup x b - 2 ^ v < x by omega)] at e5
    simp only [cond_true, Bool.not_true, cond_false]
    rw [cf s0, e1, Option.bind_some, e2, Option.bind_some]
    simp only
    rw [hw, show S.dyad_Make _ = _ from e3, Option.bind_some, show S.dyad_Sub _ = _ from e4, Option.bind_some]
    simp only [decide_true, cond_true]
    rw [show S.dyad_Less _ = _ from e5, Option.bind_some]
end Go.L

/-! VC -/
namespace Go.L
open Go.PM
set_option exponentiation.threshold 20000
set_option linter.unusedVariables false
set_option linter.unusedSimpArgs false

theorem nn_bounds {q : Rat} {b : Nat} (h0 : q ≠ 0) : 2 ^ b * (nden q b).natAbs ≤ (nnum q b).natAbs ∧ (nnum q b).natAbs < 2 ^ (b + 2) * (nden q b).natAbs := by
  have hn0 := num0 h0
  have hd0 : (q.den : Int) ≠ 0 := den0 q
  have n1 := bl_lo hn0
  have n2 := bl_hi q.num
  have d1 := bl_lo hd0
  have d2 := bl_hi (q.den : Int)
  rw [den_abs] at d1 d2
  have hs : nsh q b = (b : Int) - bl q.num + bl (q.den : Int) + 1 := rfl
  unfold nnum nden
  generalize bl q.num = n at *
  generalize bl (q.den : Int) = d at *
  by_cases h : 0 ≤ nsh q b
  · rw [if_pos h, if_pos h]
    obtain ⟨s, hs'⟩ : ∃ s : Nat, nsh q b = s := ⟨(nsh q b).toNat, by omega⟩
    rw [hs', Int.toNat_natCast, den_abs, Int.natAbs_mul, pow_cast, Int.natAbs_natCast]
    have hp := Nat.pow_pos (n := s) (show 0 < 2 by decide)
    have e1 : 2 ^ b * 2 ^ d = 2 ^ (n - 1) * 2 ^ s := by rw [← Nat.pow_add, ← Nat.pow_add]; congr 1; omega
    have e2 : 2 ^ n * 2 ^ s = 2 ^ (b + 2) * 2 ^ (d - 1) := by rw [← Nat.pow_add, ← Nat.pow_add]; congr 1; omega
    constructor
    · calc 2 ^ b * q.den ≤ 2 ^ b * 2 ^ d := Nat.mul_le_mul_left _ (Nat.le_of_lt d2)
        _ = 2 ^ (n - 1) * 2 ^ s := e1
        _ ≤ q.num.natAbs * 2 ^ s := Nat.mul_le_mul_right _ n1.1
    · calc q.num.natAbs * 2 ^ s < 2 ^ n * 2 ^ s := Nat.mul_lt_mul_of_pos_right n2 hp
        _ = 2 ^ (b + 2) * 2 ^ (d - 1) := e2
        _ ≤ 2 ^ (b + 2) * q.den := Nat.mul_le_mul_left _ d1.1
  · rw [if_neg h, if_neg h]
    obtain ⟨s, hs'⟩ : ∃ s : Nat, -nsh q b = s := ⟨(-nsh q b).toNat, by omega⟩
    rw [hs', Int.toNat_natCast, Int.natAbs_mul, den_abs, pow_cast, Int.natAbs_natCast]
    have e1 : 2 ^ b * (2 ^ d * 2 ^ s) = 2 ^ (n - 1) := by rw [← Nat.pow_add, ← Nat.pow_add]; congr 1; omega
    have e2 : 2 ^ n = 2 ^ (b + 2) * (2 ^ (d - 1) * 2 ^ s) := by rw [← Nat.pow_add, ← Nat.pow_add]; congr 1; omega
    constructor
    · calc 2 ^ b * (q.den * 2 ^ s) ≤ 2 ^ b * (2 ^ d * 2 ^ s) := Nat.mul_le_mul_left _ (Nat.mul_le_mul_right _ (Nat.le_of_lt d2))
        _ = 2 ^ (n - 1) := e1
        _ ≤ q.num.natAbs := n1.1
    · calc q.num.natAbs < 2 ^ n := n2
        _ = 2 ^ (b + 2) * (2 ^ (d - 1) * 2 ^ s) := e2
        _ ≤ 2 ^ (b + 2) * (q.den * 2 ^ s) := Nat.mul_le_mul_left _ (Nat.mul_le_mul_right _ d1.1)
theorem nq_small {q : Rat} {b : Nat} (up : Bool) (h0 : q ≠ 0) : nq up q b ≤ 2 ^ (b + 2) ∧ -(2 ^ (b + 2) : Int) ≤ nq up q b := by
  have h := (nn_bounds (b := b) h0).2
  have hd := nden_pos q b
  have hN : nnum q b < 2 ^ (b + 2) * nden q b ∧ -(2 ^ (b + 2) * nden q b) < nnum q b := by
    have e : (2 : Int) ^ (b + 2) * nden q b = ((2 ^ (b + 2) * (nden q b).natAbs : Nat) : Int) := by
      rw [pow_cast, Int.natCast_mul, Int.natAbs_of_nonneg (by omega)]
    rw [e]; omega
  have e1 : nnum q b / nden q b < 2 ^ (b + 2) := (Int.ediv_lt_iff_lt_mul hd).2 hN.1
  have e2 : -(2 ^ (b + 2) : Int) ≤ nnum q b / nden q b := (Int.le_ediv_iff_mul_le hd).2 (by rw [Int.neg_mul]; omega)
  unfold nq
  cases up && decide (nnum q b % nden q b ≠ 0)
  · simp only [cond_false]; omega
  · simp only [cond_true]; omega
theorem nq_step (q : Rat) (b : Nat) : nq false q b ≤ nq true q b ∧ nq true q b ≤ nq false q b + 1 := by
  unfold nq
  simp only [Bool.false_and, cond_false, Bool.true_and]
  cases decide (nnum q b % nden q b ≠ 0)
  · simp only [cond_false]; omega
  · simp only [cond_true]; omega
theorem near_gap {q : Rat} {b : Nat} (h0 : q ≠ 0) (hb : 1 ≤ b) : rup (nq true q b) b - rdn (nq false q b) b ≤ 4 := by
  have h1 := nq_small (b := b) false h0
  have h2 := nq_small (b := b) true h0
  have h3 := nq_step q b
  have e : (2 : Int) ^ (b + 2) = 2 ^ b * 4 := by rw [Int.pow_add]; rfl
  rw [e] at h1 h2
  have hp := two_pos b
  have l := rdn_max (x := nq false q b) (z := nq false q b / 4 * 2 ^ 2) hb ⟨nq false q b / 4, 2, rfl, by rw [show (2 : Nat) ^ b = ((2 : Int) ^ b).natAbs by rw [pow_cast, Int.natAbs_natCast]]; omega⟩ (by rw [show (2 : Int) ^ 2 = 4 from rfl]; omega)
  have u := rup_min (x := nq true q b) (z := (nq true q b + 3) / 4 * 2 ^ 2) hb ⟨(nq true q b + 3) / 4, 2, rfl, by rw [show (2 : Nat) ^ b = ((2 : Int) ^ b).natAbs by rw [pow_cast, Int.natAbs_natCast]]; omega⟩ (by rw [show (2 : Int) ^ 2 = 4 from rfl]; omega)
  rw [show (2 : Int) ^ 2 = 4 from rfl] at l u
  omega
/-- What a ratio is near, and its exponent. -/
def nz (up : Bool) (q : Rat) (b : Nat) : Int := if q = 0 then 0 else rnd up (nq up q b) b
def ne (q : Rat) (b : Nat) : Int := if q = 0 then 0 else -nsh q b
theorem dyad_Near_nz {q : Rat} {b j : Nat} {up : Bool} (hq : big q j) (hj : j ≤ 20) (hb : 2 ≤ b) (hb' : b ≤ 4096) : S.dyad_Near (R q, (b : Int), up, ()) = some (Yd (nz up q b) (ne q b), 0, ()) := by
  by_cases h0 : q = 0
  · subst h0
    have e1 := ratio_Sign_R 0
    unfold nz ne
    rw [if_pos rfl, if_pos rfl, Yd_zero]
    simp only [S.dyad_Near, L.dyad_Near]
    rw [cf (by omega), cf (by omega), show S.ratio_Sign _ = _ from e1, Option.bind_some]
    rfl
  · rw [dyad_Near_R hq h0 hj hb hb']
    unfold nz ne
    rw [if_neg h0, if_neg h0]
theorem few_zero (b : Nat) : few b 0 := ⟨0, 0, rfl, by simp⟩
theorem nz_few (up : Bool) (q : Rat) (b : Nat) : few b (nz up q b) := by
  unfold nz
  split
  · exact few_zero b
  · exact rnd_few up _ b
theorem nz_abs {up : Bool} {q : Rat} {b : Nat} (hb : b ≤ 4096) : (nz up q b).natAbs < P 130 := by
  unfold nz
  split
  · exact P_pos _
  · rename_i h0
    have h := nq_small (b := b) up h0
    have h1 : (nq up q b).natAbs < P 129 := by
      have : (nq up q b).natAbs ≤ 2 ^ (b + 2) := by rw [show (2 : Nat) ^ (b + 2) = ((2 : Int) ^ (b + 2)).natAbs by rw [pow_cast, Int.natAbs_natCast]]; omega
      exact Nat.lt_of_le_of_lt this (two_P (by omega))
    exact rnd_abs h1
theorem ne_le {q : Rat} {b j : Nat} (hq : big q j) : -((b : Int) + 32 * j + 1) ≤ ne q b ∧ ne q b ≤ 32 * j := by
  unfold ne
  have := nsh_le (b := b) hq
  split <;> omega
/-- The ratio of a dyad whose exponent may be above 0. -/
theorem dyad_Ratio_any {x e : Int} {k j : Nat} (hx : x.natAbs < P k) (hk : k + 21 ≤ j) (hj : j ≤ 500) (he0 : -5000 ≤ e) (he1 : e ≤ 640) (hj2 : -e < 32 * (j : Int)) : S.dyad_Ratio (Yd x e, ()) = some (R (dv x e), 0, ()) ∧ big (dv x e) j := by
  by_cases h : e ≤ 0
  · exact dyad_Ratio_Yn hx (by omega) (by omega) he0 h hj2
  · obtain ⟨n, rfl⟩ : ∃ n : Nat, e = n := ⟨e.toNat, by omega⟩
    have h1 : Yd x (n : Int) = Yd (x * 2 ^ n) 0 := by rw [Yd_scale]; congr 1; omega
    have h2 : dv x (n : Int) = dv (x * 2 ^ n) 0 := by rw [dv_scale]; congr 1; omega
    rw [h1, h2]
    have hm : (x * 2 ^ n).natAbs < P (k + 21) := by
      rw [pow_cast, mul_abs, nat_abs]; exact P_mul hx (two_P (by omega))
    exact dyad_Ratio_Yn hm (by omega) (by omega) (by omega) (by omega) (by omega)
theorem dyad_Cmp_of {a : DY} {p q : Rat} {i j : Nat} (h1 : S.dyad_Ratio (a, ()) = some (R p, 0, ())) (h2 : big p i) (hq : big q j) (hj : i + j ≤ 512) : S.dyad_Cmp (a, R q, ()) = some (sgq p q, 0, ()) := by
  have h3 := ratio_Compare_R h2 hq (by omega)
  have e0 : ∀ (a : DY) (b : RT), S.dyad_Cmp (a, b, ()) = (S.dyad_Ratio (a, ())).bind fun z1 => cond (!(decide (z1.2.1 = 0))) (some (0, z1.2.1, ())) ((S.ratio_Compare (z1.1, b, ())).bind fun z2 => some (z2.1, z2.2.1, ())) := fun _ _ => rfl
  rw [e0, h1, Option.bind_some]
  simp only [decide_true, Bool.not_true, cond_false]
  rw [h3, Option.bind_some]
theorem nz_lo (q : Rat) (b : Nat) : dv (nz false q b) (ne q b) ≤ q := by
  unfold nz ne
  by_cases h0 : q = 0
  · subst h0; rw [if_pos rfl, if_pos rfl, dv_zero]; exact Rat.le_refl
  · rw [if_neg h0, if_neg h0]
    have h1 := (nq_ends false q b).1 rfl
    have h2 := near_le h1
    have h3 : dv (rnd false (nq false q b) b) (-nsh q b) ≤ dv (nq false q b) (-nsh q b) := dv_le.2 (rdn_le _ _)
    exact Rat.le_trans h3 h2
theorem nz_hi (q : Rat) (b : Nat) : q ≤ dv (nz true q b) (ne q b) := by
  unfold nz ne
  by_cases h0 : q = 0
  · subst h0; rw [if_pos rfl, if_pos rfl, dv_zero]; exact Rat.le_refl
  · rw [if_neg h0, if_neg h0]
    have h1 := (nq_ends true q b).2.1 rfl
    have h2 := near_ge h1
    have h3 : dv (nq true q b) (-nsh q b) ≤ dv (rnd true (nq true q b) b) (-nsh q b) := dv_le.2 (rup_ge _ _)
    exact Rat.le_trans h2 h3
theorem near_exact {q : Rat} {b : Nat} {z : Int} (h : dv z (-nsh q b) = q) : nnum q b = z * nden q b := by
  have h1 := near_val q b
  have h2 : dv z (-nsh q b) * (nden q b : Rat) = dv (z * nden q b) (-nsh q b) := by unfold dv; rw [Rat.intCast_mul]; grind
  rw [h] at h2
  rw [h2] at h1
  have a1 := dv_le (x := z * nden q b) (y := nnum q b) (e := -nsh q b)
  have a2 := dv_le (x := nnum q b) (y := z * nden q b) (e := -nsh q b)
  rw [h1] at a1 a2
  have := a1.1 Rat.le_refl
  have := a2.1 Rat.le_refl
  omega
theorem nz_exact {q : Rat} {b : Nat} {up : Bool} (hb : 1 ≤ b) (h : dv (nz up q b) (ne q b) = q) (up' : Bool) : nz up' q b = nz up q b := by
  unfold nz ne at *
  by_cases h0 : q = 0
  · rw [if_pos h0, if_pos h0]
  · rw [if_neg h0, if_neg h0] at h
    rw [if_neg h0, if_neg h0]
    have hx := near_exact h
    have hd := nden_pos q b
    have e1 : nnum q b % nden q b = 0 := by rw [hx]; exact Int.mul_emod_left _ _
    have e2 : nnum q b / nden q b = rnd up (nq up q b) b := by
      have := Int.mul_ediv_cancel (rnd up (nq up q b) b) (show nden q b ≠ 0 by omega)
      rw [← hx] at this
      exact this
    have e3 : ∀ u, nq u q b = rnd up (nq up q b) b := by
      intro u
      rw [← e2]
      unfold nq
      rw [e1]; cases u <;> rfl
    rw [e3 up', rnd_same hb (rnd_few up _ b)]
theorem nz_gap {q : Rat} {b : Nat} (hb : 2 ≤ b) : (dv (nz true q b) (ne q b) - dv (nz false q b) (ne q b)) * ((2 ^ (b - 2) : Int) : Rat) ≤ qabs q := by
  unfold nz ne
  by_cases h0 : q = 0
  · subst h0
    rw [if_pos rfl, if_pos rfl, if_pos rfl, dv_zero]
    show _ ≤ qabs 0
    have : qabs 0 = 0 := by unfold qabs; rw [if_neg Rat.lt_irrefl]
    rw [this]
    grind
  · rw [if_neg h0, if_neg h0, if_neg h0, ← dv_sub]
    have hg := near_gap (b := b) h0 (by omega)
    have hn := (nn_bounds (b := b) h0).1
    have hd := nden_pos q b
    have hv := near_val q b
    show dv (rup (nq true q b) b - rdn (nq false q b) b) (-nsh q b) * _ ≤ _
    have e1 : dv (rup (nq true q b) b - rdn (nq false q b) b) (-nsh q b) * ((2 ^ (b - 2) : Int) : Rat) = dv ((rup (nq true q b) b - rdn (nq false q b) b) * 2 ^ (b - 2)) (-nsh q b) := by unfold dv; rw [Rat.intCast_mul]; grind
    rw [e1]
    have hpp := two_pos (b - 2)
    have e2 : (rup (nq true q b) b - rdn (nq false q b) b) * 2 ^ (b - 2) ≤ 2 ^ b := by
      have h4 := Int.mul_le_mul_of_nonneg_right hg (Int.le_of_lt hpp)
      have : (4 : Int) * 2 ^ (b - 2) = 2 ^ b := by rw [show (4 : Int) = 2 ^ 2 from rfl, ← Int.pow_add]; congr 1; omega
      omega
    apply Rat.le_trans (dv_le.2 e2)
    have hdr : (0 : Rat) < (nden q b : Rat) := Rat.intCast_pos.2 hd
    apply Rat.le_of_mul_le_mul_right _ hdr
    have e3 : dv (2 ^ b) (-nsh q b) * (nden q b : Rat) = dv (2 ^ b * nden q b) (-nsh q b) := by unfold dv; rw [Rat.intCast_mul]; grind
    rw [e3]
    have hn' : 2 ^ b * nden q b ≤ (((nnum q b).natAbs : Nat) : Int) := by
      have : (2 : Int) ^ b * nden q b = ((2 ^ b * (nden q b).natAbs : Nat) : Int) := by rw [pow_cast, Int.natCast_mul, Int.natAbs_of_nonneg (by omega)]
      rw [this]; exact Int.ofNat_le.2 hn
    apply Rat.le_trans (dv_le.2 hn')
    unfold qabs
    by_cases hneg : q < 0
    · rw [if_pos hneg]
      have hlt : nnum q b < 0 := by
        have h1 : q * (nden q b : Rat) < 0 := by
          have := Rat.mul_lt_mul_of_pos_right hneg hdr
          rwa [Rat.zero_mul] at this
        rw [hv] at h1
        have := dv_lt (x := nnum q b) (y := 0) (e := -nsh q b)
        rw [dv_zero] at this
        exact this.1 h1
      rw [show (((nnum q b).natAbs : Nat) : Int) = -nnum q b by omega, dv_neg, ← hv]
      grind
    · rw [if_neg hneg]
      have hge : 0 ≤ nnum q b := by
        have h1 : 0 ≤ q * (nden q b : Rat) := Rat.mul_nonneg (Rat.not_lt.1 hneg) (Rat.le_of_lt hdr)
        rw [hv] at h1
        have := dv_le (x := 0) (y := nnum q b) (e := -nsh q b)
        rw [dv_zero] at this
        exact this.1 h1
      rw [show (((nnum q b).natAbs : Nat) : Int) = nnum q b by omega, ← hv]
      exact Rat.le_refl
theorem sgq_le {a b : Rat} (h : a ≤ b) : sgq a b ≤ 0 := by
  unfold sgq
  split
  · decide
  · rw [if_neg (Rat.not_lt.2 h)]; decide
theorem sgq_ge {a b : Rat} (h : b ≤ a) : 0 ≤ sgq a b := by
  unfold sgq
  rw [if_neg (Rat.not_lt.2 h)]
  split <;> decide
theorem sgq_zero {a b : Rat} : sgq a b = 0 ↔ a = b := by
  unfold sgq
  constructor
  · intro h
    by_cases h1 : a < b
    · rw [if_pos h1] at h; cases h
    · rw [if_neg h1] at h
      by_cases h2 : b < a
      · rw [if_pos h2] at h; cases h
      · exact Rat.le_antisymm (Rat.not_lt.1 h2) (Rat.not_lt.1 h1)
  · intro h; subst h; rw [if_neg Rat.lt_irrefl, if_neg Rat.lt_irrefl]
theorem Near_no {a : RT} {bits : Int} {up : Bool} (h : bits < 2 ∨ 4096 < bits) : S.dyad_Near (a, bits, up, ()) = some (((false, [], ()), 0, ()), 1, ()) := by
  simp only [S.dyad_Near, L.dyad_Near]
  by_cases h1 : bits < 2
  · rw [ct h1]
  · rw [cf h1, ct (by omega)]
/-- girdlelaw05.DyadNear -/
def w05_DyadNear (a : (Bool × (List Int) × Unit) × (List Int) × Unit) (bits : Int) : Option (Bool × Unit) :=
  (S.w05_halves (())).bind fun z1 =>
  cond (!z1.1) (some (false, ()))
    (
      cond (decide (10 < (a.1.2.1.length : Int))) (some (true, ()))
        (
          cond (decide (10 < (a.2.1.length : Int))) (some (true, ()))
            (
              (S.ratio_Check (((a.1.1, a.1.2.1, ()), a.2.1, ()), ())).bind fun z2 =>
              cond (!(decide (z2.1 = 0))) (some (true, ()))
                (
                  (S.dyad_Near (((a.1.1, a.1.2.1, ()), a.2.1, ()), bits, false, ())).bind fun z3 =>
                  (S.dyad_Near (((a.1.1, a.1.2.1, ()), a.2.1, ()), bits, true, ())).bind fun z4 =>
                  cond (decide (bits < 2))
                    (
                      cond (decide (z3.2.1 = 1)) (some (decide (z4.2.1 = 1), ())) (some (false, ())))
                    (
                      cond (decide (4096 < bits))
                        (
                          cond (decide (z3.2.1 = 1)) (some (decide (z4.2.1 = 1), ())) (some (false, ())))
                        (
                          cond (!(decide (z3.2.1 = 0))) (some (false, ()))
                            (
                              cond (!(decide (z4.2.1 = 0))) (some (false, ()))
                                (
                                  (S.w05_few (((z3.1.1.1, z3.1.1.2.1, ()), z3.1.2.1, ()), bits, ())).bind fun z5 =>
                                  cond (!z5.1) (some (false, ()))
                                    (
                                      (S.w05_few (((z4.1.1.1, z4.1.1.2.1, ()), z4.1.2.1, ()), bits, ())).bind fun z6 =>
                                      cond (!z6.1) (some (false, ()))
                                        (
                                          (S.dyad_Cmp (((z3.1.1.1, z3.1.1.2.1, ()), z3.1.2.1, ()), ((a.1.1, a.1.2.1, ()), a.2.1, ()), ())).bind fun z7 =>
                                          (S.dyad_Cmp (((z4.1.1.1, z4.1.1.2.1, ()), z4.1.2.1, ()), ((a.1.1, a.1.2.1, ()), a.2.1, ()), ())).bind fun z8 =>
                                          cond (!(decide (z7.2.1 = 0))) (some (false, ()))
                                            (
                                              cond (!(decide (z8.2.1 = 0))) (some (false, ()))
                                                (
                                                  cond (decide (0 < z7.1)) (some (false, ()))
                                                    (
                                                      cond (decide (z8.1 < 0)) (some (false, ()))
                                                        (
                                                          cond (!(decide (z7.1 = 0) == decide (z8.1 = 0))) (some (false, ()))
                                                            (
                                                              (S.dyad_Ratio (((z3.1.1.1, z3.1.1.2.1, ()), z3.1.2.1, ()), ())).bind fun z9 =>
                                                              (S.dyad_Ratio (((z4.1.1.1, z4.1.1.2.1, ()), z4.1.2.1, ()), ())).bind fun z10 =>
                                                              (S.ratio_Sub (((z10.1.1.1, z10.1.1.2.1, ()), z10.1.2.1, ()), ((z9.1.1.1, z9.1.1.2.1, ()), z9.1.2.1, ()), ())).bind fun z11 =>
                                                              (S.limbs_Of (1, ())).bind fun z12 =>
                                                              (S.limbs_Left (z12.1, (IntKind.i64.wrap (bits - 2)), ())).bind fun z14 =>
                                                              (S.whole_Nat (z14.1, ())).bind fun z15 =>
                                                              (S.ratio_Whole ((z15.1.1, z15.1.2.1, ()), ())).bind fun z16 =>
                                                              (S.ratio_Mul (((z11.1.1.1, z11.1.1.2.1, ()), z11.1.2.1, ()), ((z16.1.1.1, z16.1.1.2.1, ()), z16.1.2.1, ()), ())).bind fun z17 =>
                                                              (S.ratio_Abs (((a.1.1, a.1.2.1, ()), a.2.1, ()), ())).bind fun z18 =>
                                                              (S.ratio_Compare (((z17.1.1.1, z17.1.1.2.1, ()), z17.1.2.1, ()), ((z18.1.1.1, z18.1.1.2.1, ()), z18.1.2.1, ()), ())).bind fun z19 =>
                                                              cond (decide (z17.2.1 = 0))
                                                                (
                                                                  cond (decide (z19.2.1 = 0)) (some (decide (z19.1 ≤ 0), ())) (some (false, ()))) (some (false, ())))))))))))))))))

theorem DyadNear_true {a : RT} {bits : Int} (ha : inR a) (h0 : -9223372036854775808 ≤ bits) (h1 : bits < 9223372036854775808) : w05_DyadNear a bits = some (true, ()) := by
  unfold w05_DyadNear
  rw [w05_halves_true, Option.bind_some]
  simp only [Bool.not_true, cond_false]
  by_cases hn : 10 < a.1.2.1.length
  · rw [ct (by omega)]
  rw [cf (by omega)]
  by_cases hd : 10 < a.2.1.length
  · rw [ct (by omega)]
  rw [cf (by omega)]
  rcases ratio_Check_in ha with ⟨c, c0, e⟩ | ⟨e, q, rfl, hq2⟩
  · rw [show S.ratio_Check _ = _ from e, Option.bind_some]; simp only; rw [decide_eq_false c0]; rfl
  rw [show S.ratio_Check _ = _ from e, Option.bind_some]
  simp only [decide_true, Bool.not_true, cond_false]
  have hq : big q 10 := big_len (m := 0) (by simp only at hn; omega) (by simp only at hd; omega)
  by_cases hb : bits < 2
  · rw [show S.dyad_Near _ = _ from Near_no (a := R q) (up := false) (.inl hb), Option.bind_some, show S.dyad_Near _ = _ from Near_no (a := R q) (up := true) (.inl hb), Option.bind_some, ct hb]; rfl
  by_cases hb' : 4096 < bits
  · rw [show S.dyad_Near _ = _ from Near_no (a := R q) (up := false) (.inr hb'), Option.bind_some, show S.dyad_Near _ = _ from Near_no (a := R q) (up := true) (.inr hb'), Option.bind_some, cf hb, ct hb']; rfl
  obtain ⟨b, rfl⟩ : ∃ b : Nat, bits = b := ⟨bits.toNat, by omega⟩
  have n1 := dyad_Near_nz (b := b) (up := false) hq (by decide) (by omega) (by omega)
  have n2 := dyad_Near_nz (b := b) (up := true) hq (by decide) (by omega) (by omega)
  have hne := ne_le (b := b) hq
  have z1 := nz_abs (up := false) (q := q) (b := b) (by omega)
  have z2 := nz_abs (up := true) (q := q) (b := b) (by omega)
  have f1 := w05_few_Yd (e := ne q b) (b := b) z1 (by decide)
  have f2 := w05_few_Yd (e := ne q b) (b := b) z2 (by decide)
  rw [decide_eq_true (few_bl (by omega) (nz_few false q b))] at f1
  rw [decide_eq_true (few_bl (by omega) (nz_few true q b))] at f2
  obtain ⟨r1, b1⟩ := dyad_Ratio_any (e := ne q b) (j := 152) z1 (by decide) (by decide) (by omega) (by omega) (by omega)
  obtain ⟨r2, b2⟩ := dyad_Ratio_any (e := ne q b) (j := 152) z2 (by decide) (by decide) (by omega) (by omega) (by omega)
  have c1 := dyad_Cmp_of r1 b1 hq (by decide)
  have c2 := dyad_Cmp_of r2 b2 hq (by decide)
  have q1 := sgq_le (nz_lo q b)
  have q2 := sgq_ge (nz_hi q b)
  rw [show S.dyad_Near _ = _ from n1, Option.bind_some, show S.dyad_Near _ = _ from n2, Option.bind_some, cf hb, cf hb']
  simp only [decide_true, Bool.not_true, cond_false]
  rw [show S.w05_few _ = _ from f1, Option.bind_some]
  simp only [Bool.not_true, cond_false]
  rw [show S.w05_few _ = _ from f2, Option.bind_some]
  simp only [Bool.not_true, cond_false]
  rw [show S.dyad_Cmp _ = _ from c1, Option.bind_some, show S.dyad_Cmp _ = _ from c2, Option.bind_some]
  simp only [decide_true, Bool.not_true, cond_false]
  rw [cf (by omega), cf (by omega)]
  have hiff : decide (sgq (dv (nz false q b) (ne q b)) q = 0) = decide (sgq (dv (nz true q b) (ne q b)) q = 0) := by
    apply decide_eq_decide.2
    rw [sgq_zero, sgq_zero]
    constructor
    · intro h; rw [nz_exact (by omega) h true]; exact h
    · intro h; rw [nz_exact (by omega) h false]; exact h
  rw [hiff]
  simp only [beq_self_eq_true, Bool.not_true, cond_false]
  have e3 := ratio_Sub_R b2 b1 (by decide)
  have b3 := big_sub b2 b1
  have hp : 2 ^ (b - 2) < P 128 := two_P (by omega)
  have e4 : S.limbs_Left (D 1, ((b - 2 : Nat) : Int), ()) = some (D (2 ^ (b - 2)), 0, ()) := by
    rw [Left_D (P_one 1000 (by decide)), if_neg (by decide), if_neg (by omega), Nat.one_mul, res_in (P40 hp (by decide))]
  have e5 := whole_Nat_D (P1000 hp (by decide))
  have e6 := ratio_Whole_R (z := ((2 ^ (b - 2) : Nat) : Int)) (by rw [Int.natAbs_natCast]; exact P1000 hp (by decide))
  have b6 : big (((2 ^ (b - 2) : Nat) : Int) : Rat) 128 := rat_int_big (by rw [Int.natAbs_natCast]; exact hp) (by decide)
  have e7 := ratio_Mul_R b3 b6 (by decide)
  have b7 := big_mul b3 b6
  have e8 := ratio_Abs_R hq (by decide)
  have b8 : big (qabs q) 10 := by
    obtain ⟨h1, h2⟩ := qabs_num q
    unfold big
    rw [h1, h2, Int.natAbs_natCast]; exact hq
  have e9 := ratio_Compare_R b7 b8 (by decide)
  have hgap := nz_gap (q := q) (b := b) (by omega)
  rw [pow_cast] at hgap
  rw [show S.dyad_Ratio _ = _ from r1, Option.bind_some, show S.dyad_Ratio _ = _ from r2, Option.bind_some, show S.ratio_Sub _ = _ from e3, Option.bind_some, Of_one, Option.bind_some]
  simp only
  rw [wi64 (by omega) (by omega), show (b : Int) - 2 = ((b - 2 : Nat) : Int) by omega, e4, Option.bind_some]
  simp only
  rw [show S.whole_Nat _ = _ from e5, Option.bind_some, show S.ratio_Whole _ = _ from e6, Option.bind_some, show S.ratio_Mul _ = _ from e7, Option.bind_some, show S.ratio_Abs _ = _ from e8, Option.bind_some, show S.ratio_Compare _ = _ from e9, Option.bind_some]
  simp only [decide_true, cond_true]
  rw [decide_eq_true (sgq_le hgap)]
end Go.L

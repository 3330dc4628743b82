/-
  spans: the rest of their functions; what the laws of spans ask. the laws of spans: near, sizes, holds. the laws of spans: nests, sets, tight.
  No condition beyond those that each theorem names.
-/
import Derived.Test.YtblbpaoidlojdaaGreatDoorN

/-! UA -/
namespace Go.L
open Go.PM
set_option exponentiation.threshold 20000
set_option linter.unusedVariables false
set_option linter.unusedSimpArgs false

/-- span.Make -/
def span_Make (lo : (Bool × (List Int) × Unit) × Int × Unit) (hi : (Bool × (List Int) × Unit) × Int × Unit) : Option ((((Bool × (List Int) × Unit) × Int × Unit) × ((Bool × (List Int) × Unit) × Int × Unit) × Unit) × Int × Unit) :=
  (S.dyad_Less (((hi.1.1, hi.1.2.1, ()), hi.2.1, ()), ((lo.1.1, lo.1.2.1, ()), lo.2.1, ()), ())).bind fun z1 =>
  cond (z1.1) (some ((((false, [], ()), 0, ()), ((false, [], ()), 0, ()), ()), 1, ()))
    (
      some ((((lo.1.1, lo.1.2.1, ()), lo.2.1, ()), ((hi.1.1, hi.1.2.1, ()), hi.2.1, ()), ()), 0, ()))

def S.span_Make (x : DY × DY × Unit) : Option (SP × Int × Unit) := L.span_Make x.1 x.2.1
/-- span.Neg -/
def span_Neg (a : ((Bool × (List Int) × Unit) × Int × Unit) × ((Bool × (List Int) × Unit) × Int × Unit) × Unit) : Option ((((Bool × (List Int) × Unit) × Int × Unit) × ((Bool × (List Int) × Unit) × Int × Unit) × Unit) × Unit) :=
  (S.dyad_Neg (((a.2.1.1.1, a.2.1.1.2.1, ()), a.2.1.2.1, ()), ())).bind fun z1 =>
  (S.dyad_Neg (((a.1.1.1, a.1.1.2.1, ()), a.1.2.1, ()), ())).bind fun z2 =>
  some ((((z1.1.1.1, z1.1.1.2.1, ()), z1.1.2.1, ()), ((z2.1.1.1, z2.1.1.2.1, ()), z2.1.2.1, ()), ()), ())

def S.span_Neg (x : SP × Unit) : Option (SP × Unit) := L.span_Neg x.1
theorem span_Neg_Sp {l h e : Int} {k : Nat} (hx : lt2 l h k) (hk : k ≤ 1000) : S.span_Neg (Sp l h e, ()) = some (Sp (-h) (-l) e, ()) := by
  have e0 : ∀ a : SP, S.span_Neg (a, ()) = (S.dyad_Neg (a.2.1, ())).bind fun z1 => (S.dyad_Neg (a.1, ())).bind fun z2 => some ((z1.1, z2.1, ()), ()) := fun _ => rfl
  rw [e0, dyad_Neg_Yd (P1000 hx.2 hk), Option.bind_some, dyad_Neg_Yd (P1000 hx.1 hk), Option.bind_some]
/-- span.Sub -/
def span_Sub (a : ((Bool × (List Int) × Unit) × Int × Unit) × ((Bool × (List Int) × Unit) × Int × Unit) × Unit) (b : ((Bool × (List Int) × Unit) × Int × Unit) × ((Bool × (List Int) × Unit) × Int × Unit) × Unit) (bits : Int) : Option ((((Bool × (List Int) × Unit) × Int × Unit) × ((Bool × (List Int) × Unit) × Int × Unit) × Unit) × Int × Unit) :=
  (S.span_Neg ((((b.1.1.1, b.1.1.2.1, ()), b.1.2.1, ()), ((b.2.1.1.1, b.2.1.1.2.1, ()), b.2.1.2.1, ()), ()), ())).bind fun z1 =>
  (S.span_Add ((((a.1.1.1, a.1.1.2.1, ()), a.1.2.1, ()), ((a.2.1.1.1, a.2.1.1.2.1, ()), a.2.1.2.1, ()), ()), (((z1.1.1.1.1, z1.1.1.1.2.1, ()), z1.1.1.2.1, ()), ((z1.1.2.1.1.1, z1.1.2.1.1.2.1, ()), z1.1.2.1.2.1, ()), ()), bits, ())).bind fun z2 =>
  some ((((z2.1.1.1.1, z2.1.1.1.2.1, ()), z2.1.1.2.1, ()), ((z2.1.2.1.1.1, z2.1.2.1.1.2.1, ()), z2.1.2.1.2.1, ()), ()), z2.2.1, ())

def S.span_Sub (x : SP × SP × Int × Unit) : Option (SP × Int × Unit) := L.span_Sub x.1 x.2.1 x.2.2.1
theorem lt2_neg {l h : Int} {k : Nat} (hx : lt2 l h k) : lt2 (-h) (-l) k := ⟨by rw [Int.natAbs_neg]; exact hx.2, by rw [Int.natAbs_neg]; exact hx.1⟩
theorem span_Sub_Sp {l h l' h' e : Int} {b k : Nat} (hx : lt2 l h k) (hy : lt2 l' h' k) (hk : k ≤ 490) (h0 : -60000 ≤ e) (h1 : e ≤ 20000) (hb : 2 ≤ b) (hb' : b ≤ 4096) : S.span_Sub (Sp l h e, Sp l' h' e, (b : Int), ()) = some (Sp (rdn (l - h') b) (rup (h - l') b) e, 0, ()) := by
  have e0 : ∀ (a c : SP) (b : Int), S.span_Sub (a, c, b, ()) = (S.span_Neg (c, ())).bind fun z1 => (S.span_Add (a, z1.1, b, ())).bind fun z2 => some z2 := fun _ _ _ => rfl
  rw [e0, span_Neg_Sp hy (by omega), Option.bind_some, span_Add_Sp hx (lt2_neg hy) hk h0 h1 hb hb', Option.bind_some, Int.sub_eq_add_neg, Int.sub_eq_add_neg]
/-- span.Round -/
def span_Round (a : ((Bool × (List Int) × Unit) × Int × Unit) × ((Bool × (List Int) × Unit) × Int × Unit) × Unit) (bits : Int) : Option ((((Bool × (List Int) × Unit) × Int × Unit) × ((Bool × (List Int) × Unit) × Int × Unit) × Unit) × Int × Unit) :=
  (S.span_out (((a.1.1.1, a.1.1.2.1, ()), a.1.2.1, ()), ((a.2.1.1.1, a.2.1.1.2.1, ()), a.2.1.2.1, ()), bits, ())).bind fun z1 =>
  some ((((z1.1.1.1.1, z1.1.1.1.2.1, ()), z1.1.1.2.1, ()), ((z1.1.2.1.1.1, z1.1.2.1.1.2.1, ()), z1.1.2.1.2.1, ()), ()), z1.2.1, ())

def S.span_Round (x : SP × Int × Unit) : Option (SP × Int × Unit) := L.span_Round x.1 x.2.1
theorem span_Round_Sp {l h e : Int} {b k : Nat} (hx : lt2 l h k) (hk : k ≤ 490) (h0 : -60000 ≤ e) (h1 : e ≤ 20000) (hb : 2 ≤ b) (hb' : b ≤ 4096) : S.span_Round (Sp l h e, (b : Int), ()) = some (Sp (rdn l b) (rup h b) e, 0, ()) := by
  have e0 : ∀ (a : SP) (b : Int), S.span_Round (a, b, ()) = (S.span_out (a.1, a.2.1, b, ())).bind fun z1 => some z1 := fun _ _ => rfl
  rw [e0, span_out_Yd hx.1 hx.2 (by omega) h0 h1 hb hb', Option.bind_some]
/-- span.Meet -/
def span_Meet (a : ((Bool × (List Int) × Unit) × Int × Unit) × ((Bool × (List Int) × Unit) × Int × Unit) × Unit) (b : ((Bool × (List Int) × Unit) × Int × Unit) × ((Bool × (List Int) × Unit) × Int × Unit) × Unit) : Option ((((Bool × (List Int) × Unit) × Int × Unit) × ((Bool × (List Int) × Unit) × Int × Unit) × Unit) × Int × Unit) :=
  (S.dyad_Max (((a.1.1.1, a.1.1.2.1, ()), a.1.2.1, ()), ((b.1.1.1, b.1.1.2.1, ()), b.1.2.1, ()), ())).bind fun z1 =>
  (S.dyad_Min (((a.2.1.1.1, a.2.1.1.2.1, ()), a.2.1.2.1, ()), ((b.2.1.1.1, b.2.1.1.2.1, ()), b.2.1.2.1, ()), ())).bind fun z2 =>
  (S.dyad_Less (((z2.1.1.1, z2.1.1.2.1, ()), z2.1.2.1, ()), ((z1.1.1.1, z1.1.1.2.1, ()), z1.1.2.1, ()), ())).bind fun z3 =>
  cond (z3.1) (some ((((false, [], ()), 0, ()), ((false, [], ()), 0, ()), ()), 4, ()))
    (
      some ((((z1.1.1.1, z1.1.1.2.1, ()), z1.1.2.1, ()), ((z2.1.1.1, z2.1.1.2.1, ()), z2.1.2.1, ()), ()), 0, ()))

def S.span_Meet (x : SP × SP × Unit) : Option (SP × Int × Unit) := L.span_Meet x.1 x.2.1
/-- span.Size -/
def span_Size (a : ((Bool × (List Int) × Unit) × Int × Unit) × ((Bool × (List Int) × Unit) × Int × Unit) × Unit) : Option (((Bool × (List Int) × Unit) × Int × Unit) × Unit) :=
  (S.dyad_Abs (((a.1.1.1, a.1.1.2.1, ()), a.1.2.1, ()), ())).bind fun z1 =>
  (S.dyad_Abs (((a.2.1.1.1, a.2.1.1.2.1, ()), a.2.1.2.1, ()), ())).bind fun z2 =>
  (S.dyad_Max (((z1.1.1.1, z1.1.1.2.1, ()), z1.1.2.1, ()), ((z2.1.1.1, z2.1.1.2.1, ()), z2.1.2.1, ()), ())).bind fun z3 =>
  some (((z3.1.1.1, z3.1.1.2.1, ()), z3.1.2.1, ()), ())

def S.span_Size (x : SP × Unit) : Option (DY × Unit) := L.span_Size x.1
/-- span.Middle -/
def span_Middle (a : ((Bool × (List Int) × Unit) × Int × Unit) × ((Bool × (List Int) × Unit) × Int × Unit) × Unit) : Option (((Bool × (List Int) × Unit) × Int × Unit) × Int × Unit) :=
  (S.dyad_Add (((a.1.1.1, a.1.1.2.1, ()), a.1.2.1, ()), ((a.2.1.1.1, a.2.1.1.2.1, ()), a.2.1.2.1, ()), ())).bind fun z1 =>
  cond (!(decide (z1.2.1 = 0))) (some (((false, [], ()), 0, ()), z1.2.1, ()))
    (
      (S.dyad_Of (1, (-1 : Int), ())).bind fun z2 =>
      (S.dyad_Mul (((z1.1.1.1, z1.1.1.2.1, ()), z1.1.2.1, ()), ((z2.1.1.1, z2.1.1.2.1, ()), z2.1.2.1, ()), ())).bind fun z3 =>
      some (((z3.1.1.1, z3.1.1.2.1, ()), z3.1.2.1, ()), z3.2.1, ()))

def S.span_Middle (x : SP × Unit) : Option (DY × Int × Unit) := L.span_Middle x.1
/-- span_Sum: one round of loop 0. -/
def span_Sum_s0 (κ0 : Int → Bool → (List Int) → Int → Bool → (List Int) → Int → Bool → (List Int) → Int → Bool → (List Int) → Int → (List (((Bool × (List Int) × Unit) × Int × Unit) × ((Bool × (List Int) × Unit) × Int × Unit) × Unit)) → Int → Int → Option ((((Bool × (List Int) × Unit) × Int × Unit) × ((Bool × (List Int) × Unit) × Int × Unit) × Unit) × Int × Unit)) (bits : Int) (t4_0 : Bool) (t4_1 : List Int) (t4_2 : Int) (t4_3 : Bool) (t4_4 : List Int) (t4_5 : Int) (all_0 : Bool) (all_1 : List Int) (all_2 : Int) (all_3 : Bool) (all_4 : List Int) (all_5 : Int) (t10 : List (((Bool × (List Int) × Unit) × Int × Unit) × ((Bool × (List Int) × Unit) × Int × Unit) × Unit)) (t11 : Int) (t12 : Int) : Option ((((Bool × (List Int) × Unit) × Int × Unit) × ((Bool × (List Int) × Unit) × Int × Unit) × Unit) × Int × Unit) :=
  cond (decide (t12 < t11))
    (
      cond (decide (0 ≤ t12))
        (
          cond (decide (t12 < (t10.length : Int)))
            (
              let z1 := t10.getD t12.toNat (((false, ([], ())), (0, ())), (((false, ([], ())), (0, ())), ()))
              (S.span_Add ((((all_0, all_1, ()), all_2, ()), ((all_3, all_4, ()), all_5, ()), ()), (((z1.1.1.1, z1.1.1.2.1, ()), z1.1.2.1, ()), ((z1.2.1.1.1, z1.2.1.1.2.1, ()), z1.2.1.2.1, ()), ()), bits, ())).bind fun z2 =>
              cond (!(decide (z2.2.1 = 0))) (some ((((false, [], ()), 0, ()), ((false, [], ()), 0, ()), ()), z2.2.1, ()))
                (
                  κ0 bits t4_0 t4_1 t4_2 t4_3 t4_4 t4_5 z2.1.1.1.1 z2.1.1.1.2.1 z2.1.1.2.1 z2.1.2.1.1.1 z2.1.2.1.1.2.1 z2.1.2.1.2.1 t10 t11 (IntKind.i64.wrap (t12 + 1)))) none) none) (some ((((all_0, all_1, ()), all_2, ()), ((all_3, all_4, ()), all_5, ()), ()), 0, ()))

def span_Sum_l0 (K : Nat) : Nat → Int → Bool → (List Int) → Int → Bool → (List Int) → Int → Bool → (List Int) → Int → Bool → (List Int) → Int → (List (((Bool × (List Int) × Unit) × Int × Unit) × ((Bool × (List Int) × Unit) × Int × Unit) × Unit)) → Int → Int → Option ((((Bool × (List Int) × Unit) × Int × Unit) × ((Bool × (List Int) × Unit) × Int × Unit) × Unit) × Int × Unit)
  | 0, _, _, _, _, _, _, _, _, _, _, _, _, _, _, _, _ => none
  | n + 1, bits, t4_0, t4_1, t4_2, t4_3, t4_4, t4_5, all_0, all_1, all_2, all_3, all_4, all_5, t10, t11, t12 => span_Sum_s0 (span_Sum_l0 K n) bits t4_0 t4_1 t4_2 t4_3 t4_4 t4_5 all_0 all_1 all_2 all_3 all_4 all_5 t10 t11 t12

/-- span.Sum -/
def span_Sum_b (I0 : Int → Bool → (List Int) → Int → Bool → (List Int) → Int → Bool → (List Int) → Int → Bool → (List Int) → Int → (List (((Bool × (List Int) × Unit) × Int × Unit) × ((Bool × (List Int) × Unit) × Int × Unit) × Unit)) → Int → Int → Option ((((Bool × (List Int) × Unit) × Int × Unit) × ((Bool × (List Int) × Unit) × Int × Unit) × Unit) × Int × Unit)) (bits : Int) (list : List (((Bool × (List Int) × Unit) × Int × Unit) × ((Bool × (List Int) × Unit) × Int × Unit) × Unit)) : Option ((((Bool × (List Int) × Unit) × Int × Unit) × ((Bool × (List Int) × Unit) × Int × Unit) × Unit) × Int × Unit) :=
  I0 bits false [] 0 false [] 0 false [] 0 false [] 0 list (list.length : Int) 0

def span_Sum (K : Nat) (bits : Int) (list : List (((Bool × (List Int) × Unit) × Int × Unit) × ((Bool × (List Int) × Unit) × Int × Unit) × Unit)) : Option ((((Bool × (List Int) × Unit) × Int × Unit) × ((Bool × (List Int) × Unit) × Int × Unit) × Unit) × Int × Unit) := span_Sum_b (span_Sum_l0 K K) bits list

def S.span_Sum (x : Int × List SP × Unit) : Option (SP × Int × Unit) := L.span_Sum 100 x.1 x.2.1
/-- Spans together, after so many. -/
def sumS (f : Nat → Int × Int) (b : Nat) : Nat → Int × Int
  | 0 => (0, 0)
  | i + 1 => (rdn ((sumS f b i).1 + (f i).1) b, rup ((sumS f b i).2 + (f i).2) b)
theorem sumS_abs {f : Nat → Int × Int} {n b k : Nat} (hf : bb n f k) : ∀ i ≤ n, lt2 (sumS f b i).1 (sumS f b i).2 (k + 2 * i)
  | 0, _ => ⟨P_pos _, P_pos _⟩
  | i + 1, h => by
    have h1 := sumS_abs (b := b) hf i (by omega)
    have h2 := lt2_up (hf i (by omega)) (show k ≤ k + 2 * i by omega)
    exact ⟨rdn_abs (nA_add h1.1 h2.1), rup_abs (nA_add h1.2 h2.2)⟩
theorem span_Sum_Bx {n : Nat} {f : Nat → Int × Int} {e : Int} {b k : Nat} (hn : n ≤ 16) (hf : bb n f k) (hk : k ≤ 450) (h0 : -60000 ≤ e) (h1 : e ≤ 20000) (hb : 2 ≤ b) (hb' : b ≤ 4096) : S.span_Sum ((b : Int), Bx n f e, ()) = some (Sp (sumS f b n).1 (sumS f b n).2 e, 0, ()) := by
  simp only [S.span_Sum, L.span_Sum, span_Sum_b, Vx_len]
  have := loop_up n (fun i => Sp (sumS f b i).1 (sumS f b i).2 e) (fun k s i => span_Sum_l0 100 k (b : Int) false [] 0 false [] 0 s.1.1.1 s.1.1.2.1 s.1.2.1 s.2.1.1.1 s.2.1.1.2.1 s.2.1.2.1 (Bx n f e) (n : Int) i) (some (Sp (sumS f b n).1 (sumS f b n).2 e, 0, ())) (fun k' i hi => ?_) (fun k => ?_) 100 (by omega)
  · have hz : Sp (sumS f b 0).1 (sumS f b 0).2 e = sp0 := by simp only [sumS, Sp]; rw [Yd_zero]; rfl
    rw [hz] at this
    exact this
  · simp only [span_Sum_l0, span_Sum_s0, Vx_len]
    rw [ct (by omega), ct (by omega), ct (by omega), Int.toNat_natCast, Vx_get hi]
    have e2 := span_Add_Sp (e := e) (b := b) (sumS_abs (b := b) hf i (by omega)) (lt2_up (hf i hi) (show k ≤ k + 2 * i by omega)) (by omega) h0 h1 hb hb'
    rw [show S.span_Add _ = _ from e2, Option.bind_some]
    simp only [decide_true, Bool.not_true, cond_false]
    rw [wi1 (by omega)]
    rfl
  · simp only [span_Sum_l0, span_Sum_s0]
    rw [cf (by omega)]
/-- span.Text -/
def span_Text (a : ((Bool × (List Int) × Unit) × Int × Unit) × ((Bool × (List Int) × Unit) × Int × Unit) × Unit) : Option (ByteArray × Unit) :=
  (S.dyad_Ratio (((a.1.1.1, a.1.1.2.1, ()), a.1.2.1, ()), ())).bind fun z1 =>
  (S.dyad_Ratio (((a.2.1.1.1, a.2.1.1.2.1, ()), a.2.1.2.1, ()), ())).bind fun z2 =>
  cond (!(decide (z1.2.1 = 0))) (some ((⟨#[]⟩ : ByteArray), ()))
    (
      cond (!(decide (z2.2.1 = 0))) (some ((⟨#[]⟩ : ByteArray), ()))
        (
          (S.ratio_Text (((z1.1.1.1, z1.1.1.2.1, ()), z1.1.2.1, ()), ())).bind fun z3 =>
          cond (decide (z3.1.size + (⟨#[46, 46]⟩ : ByteArray).size ≤ 9223372036854775807))
            (
              let z4 := z3.1 ++ (⟨#[46, 46]⟩ : ByteArray)
              (S.ratio_Text (((z2.1.1.1, z2.1.1.2.1, ()), z2.1.2.1, ()), ())).bind fun z5 =>
              cond (decide (z4.size + z5.1.size ≤ 9223372036854775807)) (some ((z4 ++ z5.1), ())) none) none))

def S.span_Text (x : SP × Unit) : Option (ByteArray × Unit) := L.span_Text x.1
def str_352f3136_11 : ByteArray := (⟨#[53, 47, 49, 54, 46, 46, 49, 49, 47, 51, 50]⟩ : ByteArray)
/-- girdlelaw06.between -/
def w06_between  : Option (Bool × Unit) :=
  (S.dyad_Of (1, 0, ())).bind fun z1 =>
  (S.dyad_Of (2, 0, ())).bind fun z2 =>
  (S.span_Make (((z1.1.1.1, z1.1.1.2.1, ()), z1.1.2.1, ()), ((z2.1.1.1, z2.1.1.2.1, ()), z2.1.2.1, ()), ())).bind fun z3 =>
  (S.dyad_Of ((-1 : Int), 0, ())).bind fun z4 =>
  (S.dyad_Of (3, 0, ())).bind fun z5 =>
  (S.span_Make (((z4.1.1.1, z4.1.1.2.1, ()), z4.1.2.1, ()), ((z5.1.1.1, z5.1.1.2.1, ()), z5.1.2.1, ()), ())).bind fun z6 =>
  (S.span_Add ((((z3.1.1.1.1, z3.1.1.1.2.1, ()), z3.1.1.2.1, ()), ((z3.1.2.1.1.1, z3.1.2.1.1.2.1, ()), z3.1.2.1.2.1, ()), ()), (((z6.1.1.1.1, z6.1.1.1.2.1, ()), z6.1.1.2.1, ()), ((z6.1.2.1.1.1, z6.1.2.1.1.2.1, ()), z6.1.2.1.2.1, ()), ()), 20, ())).bind fun z7 =>
  (S.span_Sub ((((z3.1.1.1.1, z3.1.1.1.2.1, ()), z3.1.1.2.1, ()), ((z3.1.2.1.1.1, z3.1.2.1.1.2.1, ()), z3.1.2.1.2.1, ()), ()), (((z6.1.1.1.1, z6.1.1.1.2.1, ()), z6.1.1.2.1, ()), ((z6.1.2.1.1.1, z6.1.2.1.1.2.1, ()), z6.1.2.1.2.1, ()), ()), 20, ())).bind fun z8 =>
  (S.span_Mul ((((z3.1.1.1.1, z3.1.1.1.2.1, ()), z3.1.1.2.1, ()), ((z3.1.2.1.1.1, z3.1.2.1.1.2.1, ()), z3.1.2.1.2.1, ()), ()), (((z6.1.1.1.1, z6.1.1.1.2.1, ()), z6.1.1.2.1, ()), ((z6.1.2.1.1.1, z6.1.2.1.1.2.1, ()), z6.1.2.1.2.1, ()), ()), 20, ())).bind fun z9 =>
  (S.ratio_Of (1, 3, ())).bind fun z10 =>
  (S.span_Near (((z10.1.1.1, z10.1.1.2.1, ()), z10.1.2.1, ()), 4, ())).bind fun z11 =>
  (S.span_Meet ((((z3.1.1.1.1, z3.1.1.1.2.1, ()), z3.1.1.2.1, ()), ((z3.1.2.1.1.1, z3.1.2.1.1.2.1, ()), z3.1.2.1.2.1, ()), ()), (((z6.1.1.1.1, z6.1.1.1.2.1, ()), z6.1.1.2.1, ()), ((z6.1.2.1.1.1, z6.1.2.1.1.2.1, ()), z6.1.2.1.2.1, ()), ()), ())).bind fun z12 =>
  (S.span_Width ((((z6.1.1.1.1, z6.1.1.1.2.1, ()), z6.1.1.2.1, ()), ((z6.1.2.1.1.1, z6.1.2.1.1.2.1, ()), z6.1.2.1.2.1, ()), ()), ())).bind fun z13 =>
  (S.span_Middle ((((z3.1.1.1.1, z3.1.1.1.2.1, ()), z3.1.1.2.1, ()), ((z3.1.2.1.1.1, z3.1.2.1.1.2.1, ()), z3.1.2.1.2.1, ()), ()), ())).bind fun z14 =>
  (S.span_Sum (20, [(((z3.1.1.1.1, z3.1.1.1.2.1, ()), z3.1.1.2.1, ()), ((z3.1.2.1.1.1, z3.1.2.1.1.2.1, ()), z3.1.2.1.2.1, ()), ()), (((z3.1.1.1.1, z3.1.1.1.2.1, ()), z3.1.1.2.1, ()), ((z3.1.2.1.1.1, z3.1.2.1.1.2.1, ()), z3.1.2.1.2.1, ()), ()), (((z6.1.1.1.1, z6.1.1.1.2.1, ()), z6.1.1.2.1, ()), ((z6.1.2.1.1.1, z6.1.2.1.1.2.1, ()), z6.1.2.1.2.1, ()), ())], ())).bind fun z15 =>
  (S.ratio_Of (1, 3, ())).bind fun z16 =>
  (S.span_HasRatio ((((z11.1.1.1.1, z11.1.1.1.2.1, ()), z11.1.1.2.1, ()), ((z11.1.2.1.1.1, z11.1.2.1.1.2.1, ()), z11.1.2.1.2.1, ()), ()), ((z16.1.1.1, z16.1.1.2.1, ()), z16.1.2.1, ()), ())).bind fun z17 =>
  (S.span_Round ((((z11.1.1.1.1, z11.1.1.1.2.1, ()), z11.1.1.2.1, ()), ((z11.1.2.1.1.1, z11.1.2.1.1.2.1, ()), z11.1.2.1.2.1, ()), ()), 2, ())).bind fun z18 =>
  (S.dyad_Of (2, 0, ())).bind fun z19 =>
  (S.dyad_Of (1, 0, ())).bind fun z20 =>
  (S.span_Make (((z19.1.1.1, z19.1.1.2.1, ()), z19.1.2.1, ()), ((z20.1.1.1, z20.1.1.2.1, ()), z20.1.2.1, ()), ())).bind fun z21 =>
  cond (decide ((IntKind.i64.wrap ((IntKind.i64.wrap ((IntKind.i64.wrap ((IntKind.i64.wrap ((IntKind.i64.wrap ((IntKind.i64.wrap ((IntKind.i64.wrap ((IntKind.i64.wrap ((IntKind.i64.wrap ((IntKind.i64.wrap ((IntKind.i64.wrap (z3.2.1 + z6.2.1)) + z7.2.1)) + z8.2.1)) + z9.2.1)) + z11.2.1)) + z12.2.1)) + z13.2.1)) + z14.2.1)) + z15.2.1)) + z17.2.1)) + z18.2.1)) = 0))
    (
      cond (decide (z21.2.1 = 1))
        (
          (S.span_Text ((((z7.1.1.1.1, z7.1.1.1.2.1, ()), z7.1.1.2.1, ()), ((z7.1.2.1.1.1, z7.1.2.1.1.2.1, ()), z7.1.2.1.2.1, ()), ()), ())).bind fun z33 =>
          cond ((z33.1.toList == (⟨#[48, 46, 46, 53]⟩ : ByteArray).toList))
            (
              (S.span_Text ((((z8.1.1.1.1, z8.1.1.1.2.1, ()), z8.1.1.2.1, ()), ((z8.1.2.1.1.1, z8.1.2.1.1.2.1, ()), z8.1.2.1.2.1, ()), ()), ())).bind fun z34 =>
              cond ((z34.1.toList == (⟨#[45, 50, 46, 46, 51]⟩ : ByteArray).toList))
                (
                  (S.span_Text ((((z9.1.1.1.1, z9.1.1.1.2.1, ()), z9.1.1.2.1, ()), ((z9.1.2.1.1.1, z9.1.2.1.1.2.1, ()), z9.1.2.1.2.1, ()), ()), ())).bind fun z35 =>
                  cond ((z35.1.toList == (⟨#[45, 50, 46, 46, 54]⟩ : ByteArray).toList))
                    (
                      (S.span_Text ((((z11.1.1.1.1, z11.1.1.1.2.1, ()), z11.1.1.2.1, ()), ((z11.1.2.1.1.1, z11.1.2.1.1.2.1, ()), z11.1.2.1.2.1, ()), ()), ())).bind fun z36 =>
                      cond ((z36.1.toList == str_352f3136_11.toList))
                        (
                          (S.span_Text ((((z12.1.1.1.1, z12.1.1.1.2.1, ()), z12.1.1.2.1, ()), ((z12.1.2.1.1.1, z12.1.2.1.1.2.1, ()), z12.1.2.1.2.1, ()), ()), ())).bind fun z37 =>
                          cond ((z37.1.toList == (⟨#[49, 46, 46, 50]⟩ : ByteArray).toList))
                            (
                              (S.dyad_Of (4, 0, ())).bind fun z38 =>
                              (S.dyad_Compare (((z13.1.1.1, z13.1.1.2.1, ()), z13.1.2.1, ()), ((z38.1.1.1, z38.1.1.2.1, ()), z38.1.2.1, ()), ())).bind fun z39 =>
                              cond (decide (z39.1 = 0))
                                (
                                  (S.dyad_Of (3, (-1 : Int), ())).bind fun z40 =>
                                  (S.dyad_Compare (((z14.1.1.1, z14.1.1.2.1, ()), z14.1.2.1, ()), ((z40.1.1.1, z40.1.1.2.1, ()), z40.1.2.1, ()), ())).bind fun z41 =>
                                  cond (decide (z41.1 = 0))
                                    (
                                      (S.span_Text ((((z15.1.1.1.1, z15.1.1.1.2.1, ()), z15.1.1.2.1, ()), ((z15.1.2.1.1.1, z15.1.2.1.1.2.1, ()), z15.1.2.1.2.1, ()), ()), ())).bind fun z42 =>
                                      cond ((z42.1.toList == (⟨#[49, 46, 46, 55]⟩ : ByteArray).toList))
                                        (
                                          cond (z17.1)
                                            (
                                              (S.span_Holds ((((z18.1.1.1.1, z18.1.1.1.2.1, ()), z18.1.1.2.1, ()), ((z18.1.2.1.1.1, z18.1.2.1.1.2.1, ()), z18.1.2.1.2.1, ()), ()), (((z11.1.1.1.1, z11.1.1.1.2.1, ()), z11.1.1.2.1, ()), ((z11.1.2.1.1.1, z11.1.2.1.1.2.1, ()), z11.1.2.1.2.1, ()), ()), ())).bind fun z43 =>
                                              cond (z43.1)
                                                (
                                                  (S.span_Hull ((((z3.1.1.1.1, z3.1.1.1.2.1, ()), z3.1.1.2.1, ()), ((z3.1.2.1.1.1, z3.1.2.1.1.2.1, ()), z3.1.2.1.2.1, ()), ()), (((z6.1.1.1.1, z6.1.1.1.2.1, ()), z6.1.1.2.1, ()), ((z6.1.2.1.1.1, z6.1.2.1.1.2.1, ()), z6.1.2.1.2.1, ()), ()), ())).bind fun z44 =>
                                                  (S.span_Text ((((z44.1.1.1.1, z44.1.1.1.2.1, ()), z44.1.1.2.1, ()), ((z44.1.2.1.1.1, z44.1.2.1.1.2.1, ()), z44.1.2.1.2.1, ()), ()), ())).bind fun z45 =>
                                                  cond ((z45.1.toList == (⟨#[45, 49, 46, 46, 51]⟩ : ByteArray).toList))
                                                    (
                                                      (S.dyad_Of (0, 0, ())).bind fun z46 =>
                                                      (S.span_Has ((((z6.1.1.1.1, z6.1.1.1.2.1, ()), z6.1.1.2.1, ()), ((z6.1.2.1.1.1, z6.1.2.1.1.2.1, ()), z6.1.2.1.2.1, ()), ()), ((z46.1.1.1, z46.1.1.2.1, ()), z46.1.2.1, ()), ())).bind fun z47 =>
                                                      cond (z47.1)
                                                        (
                                                          (S.span_Size ((((z6.1.1.1.1, z6.1.1.1.2.1, ()), z6.1.1.2.1, ()), ((z6.1.2.1.1.1, z6.1.2.1.1.2.1, ()), z6.1.2.1.2.1, ()), ()), ())).bind fun z48 =>
                                                          (S.dyad_Of (3, 0, ())).bind fun z49 =>
                                                          (S.dyad_Compare (((z48.1.1.1, z48.1.1.2.1, ()), z48.1.2.1, ()), ((z49.1.1.1, z49.1.1.2.1, ()), z49.1.2.1, ()), ())).bind fun z50 =>
                                                          cond (decide (z50.1 = 0))
                                                            (
                                                              (S.span_Neg ((((z3.1.1.1.1, z3.1.1.1.2.1, ()), z3.1.1.2.1, ()), ((z3.1.2.1.1.1, z3.1.2.1.1.2.1, ()), z3.1.2.1.2.1, ()), ()), ())).bind fun z51 =>
                                                              (S.span_Text ((((z51.1.1.1.1, z51.1.1.1.2.1, ()), z51.1.1.2.1, ()), ((z51.1.2.1.1.1, z51.1.2.1.1.2.1, ()), z51.1.2.1.2.1, ()), ()), ())).bind fun z52 =>
                                                              cond ((z52.1.toList == (⟨#[45, 50, 46, 46, 45, 49]⟩ : ByteArray).toList))
                                                                (
                                                                  (S.dyad_Of (1, 1, ())).bind fun z53 =>
                                                                  (S.span_Point (((z53.1.1.1, z53.1.1.2.1, ()), z53.1.2.1, ()), ())).bind fun z54 =>
                                                                  (S.span_Text ((((z54.1.1.1.1, z54.1.1.1.2.1, ()), z54.1.1.2.1, ()), ((z54.1.2.1.1.1, z54.1.2.1.1.2.1, ()), z54.1.2.1.2.1, ()), ()), ())).bind fun z55 =>
                                                                  cond ((z55.1.toList == (⟨#[50, 46, 46, 50]⟩ : ByteArray).toList))
                                                                    (
                                                                      (S.dyad_Of ((-1 : Int), 0, ())).bind fun z56 =>
                                                                      (S.span_Even (((z56.1.1.1, z56.1.1.2.1, ()), z56.1.2.1, ()), ())).bind fun z57 =>
                                                                      (S.span_Text ((((z57.1.1.1.1, z57.1.1.1.2.1, ()), z57.1.1.2.1, ()), ((z57.1.2.1.1.1, z57.1.2.1.1.2.1, ()), z57.1.2.1.2.1, ()), ()), ())).bind fun z58 =>
                                                                      cond ((z58.1.toList == (⟨#[45, 49, 46, 46, 49]⟩ : ByteArray).toList))
                                                                        (
                                                                          (S.span_Check ((((z3.1.1.1.1, z3.1.1.1.2.1, ()), z3.1.1.2.1, ()), ((z3.1.2.1.1.1, z3.1.2.1.1.2.1, ()), z3.1.2.1.2.1, ()), ()), ())).bind fun z59 =>
                                                                          some (decide (z59.1 = 0), ())) (some (false, ()))) (some (false, ()))) (some (false, ()))) (some (false, ()))) (some (false, ()))) (some (false, ()))) (some (false, ()))) (some (false, ()))) (some (false, ()))) (some (false, ()))) (some (false, ()))) (some (false, ()))) (some (false, ()))) (some (false, ()))) (some (false, ()))) (some (false, ()))) (some (false, ()))) (some (false, ()))

def S.w06_between (x : Unit) : Option (Bool × Unit) := L.w06_between
theorem w06_between_true : S.w06_between () = some (true, ()) := by
  simp only [S.w06_between, L.w06_between, toList_eq]
  decide +kernel
/-- w06_fit: one round of loop 1. -/
def w06_fit_s1 (κ0 : (List (((Bool × (List Int) × Unit) × Int × Unit) × ((Bool × (List Int) × Unit) × Int × Unit) × Unit)) → Int → Int → Option (Bool × Unit)) (κ1 : Bool → (List Int) → Int → Bool → (List Int) → Int → (List (((Bool × (List Int) × Unit) × Int × Unit) × ((Bool × (List Int) × Unit) × Int × Unit) × Unit)) → Int → Int → (List ((Bool × (List Int) × Unit) × Int × Unit)) → Int → Int → Option (Bool × Unit)) (a_0 : Bool) (a_1 : List Int) (a_2 : Int) (a_3 : Bool) (a_4 : List Int) (a_5 : Int) (t7 : List (((Bool × (List Int) × Unit) × Int × Unit) × ((Bool × (List Int) × Unit) × Int × Unit) × Unit)) (t8 : Int) (t9 : Int) (t17 : List ((Bool × (List Int) × Unit) × Int × Unit)) (t18 : Int) (t19 : Int) : Option (Bool × Unit) :=
  cond (decide (t19 < t18))
    (
      cond (decide (0 ≤ t19))
        (
          cond (decide (t19 < (t17.length : Int)))
            (
              let z2 := t17.getD t19.toNat ((false, ([], ())), (0, ()))
              cond (decide (10 < (z2.1.2.1.length : Int))) (some (false, ()))
                (
                  cond (decide (200 < z2.2.1)) (some (false, ()))
                    (
                      cond (decide (z2.2.1 < (-200 : Int))) (some (false, ())) (κ1 a_0 a_1 a_2 a_3 a_4 a_5 t7 t8 t9 t17 t18 (IntKind.i64.wrap (t19 + 1)))))) none) none)
    (
      (S.span_Check ((((a_0, a_1, ()), a_2, ()), ((a_3, a_4, ()), a_5, ()), ()), ())).bind fun z4 =>
      cond (!(decide (z4.1 = 0))) (some (false, ())) (κ0 t7 t8 (IntKind.i64.wrap (t9 + 1))))

def w06_fit_l1 (K : Nat) (κ0 : (List (((Bool × (List Int) × Unit) × Int × Unit) × ((Bool × (List Int) × Unit) × Int × Unit) × Unit)) → Int → Int → Option (Bool × Unit)) : Nat → Bool → (List Int) → Int → Bool → (List Int) → Int → (List (((Bool × (List Int) × Unit) × Int × Unit) × ((Bool × (List Int) × Unit) × Int × Unit) × Unit)) → Int → Int → (List ((Bool × (List Int) × Unit) × Int × Unit)) → Int → Int → Option (Bool × Unit)
  | 0, _, _, _, _, _, _, _, _, _, _, _, _ => none
  | n + 1, a_0, a_1, a_2, a_3, a_4, a_5, t7, t8, t9, t17, t18, t19 => w06_fit_s1 κ0 (w06_fit_l1 K κ0 n) a_0 a_1 a_2 a_3 a_4 a_5 t7 t8 t9 t17 t18 t19

/-- w06_fit: one round of loop 0. -/
def w06_fit_s0 (I1 : Bool → (List Int) → Int → Bool → (List Int) → Int → (List (((Bool × (List Int) × Unit) × Int × Unit) × ((Bool × (List Int) × Unit) × Int × Unit) × Unit)) → Int → Int → (List ((Bool × (List Int) × Unit) × Int × Unit)) → Int → Int → Option (Bool × Unit)) (κ0 : (List (((Bool × (List Int) × Unit) × Int × Unit) × ((Bool × (List Int) × Unit) × Int × Unit) × Unit)) → Int → Int → Option (Bool × Unit)) (t7 : List (((Bool × (List Int) × Unit) × Int × Unit) × ((Bool × (List Int) × Unit) × Int × Unit) × Unit)) (t8 : Int) (t9 : Int) : Option (Bool × Unit) :=
  cond (decide (t9 < t8))
    (
      cond (decide (0 ≤ t9))
        (
          cond (decide (t9 < (t7.length : Int)))
            (
              let z1 := t7.getD t9.toNat (((false, ([], ())), (0, ())), (((false, ([], ())), (0, ())), ()))
              I1 z1.1.1.1 z1.1.1.2.1 z1.1.2.1 z1.2.1.1.1 z1.2.1.1.2.1 z1.2.1.2.1 t7 t8 t9 ([((z1.1.1.1, z1.1.1.2.1, ()), z1.1.2.1, ()), ((z1.2.1.1.1, z1.2.1.1.2.1, ()), z1.2.1.2.1, ())]) (([((z1.1.1.1, z1.1.1.2.1, ()), z1.1.2.1, ()), ((z1.2.1.1.1, z1.2.1.1.2.1, ()), z1.2.1.2.1, ())]).length : Int) 0) none) none) (some (true, ()))

def w06_fit_l0 (K : Nat) : Nat → (List (((Bool × (List Int) × Unit) × Int × Unit) × ((Bool × (List Int) × Unit) × Int × Unit) × Unit)) → Int → Int → Option (Bool × Unit)
  | 0, _, _, _ => none
  | n + 1, t7, t8, t9 => w06_fit_s0 (w06_fit_l1 K (w06_fit_l0 K n) K) (w06_fit_l0 K n) t7 t8 t9

/-- girdlelaw06.fit -/
def w06_fit_b (I0 : (List (((Bool × (List Int) × Unit) × Int × Unit) × ((Bool × (List Int) × Unit) × Int × Unit) × Unit)) → Int → Int → Option (Bool × Unit)) (list : List (((Bool × (List Int) × Unit) × Int × Unit) × ((Bool × (List Int) × Unit) × Int × Unit) × Unit)) : Option (Bool × Unit) :=
  I0 list (list.length : Int) 0

def w06_fit (K : Nat) (list : List (((Bool × (List Int) × Unit) × Int × Unit) × ((Bool × (List Int) × Unit) × Int × Unit) × Unit)) : Option (Bool × Unit) := w06_fit_b (w06_fit_l0 K K) list

def S.w06_fit (x : List SP × Unit) : Option (Bool × Unit) := L.w06_fit 100 x.1
/-- A span that fits. -/
def fits06 (a : SP) : Prop := ∃ l h : Int, a = Sp l h (-((200 : Nat) : Int)) ∧ lt2 l h 23 ∧ l ≤ h
theorem fit06_two {K k : Nat} {κ0 : List SP → Int → Int → Option (Bool × Unit)} {a : SP} {p : List SP} {r s : Int} (ha : inS a) :
    w06_fit_l1 K κ0 (k + 3) a.1.1.1 a.1.1.2.1 a.1.2.1 a.2.1.1.1 a.2.1.1.2.1 a.2.1.2.1 p r s [a.1, a.2.1] (([a.1, a.2.1] : List DY).length : Int) 0 = some (false, ()) ∨
    (w06_fit_l1 K κ0 (k + 3) a.1.1.1 a.1.1.2.1 a.1.2.1 a.2.1.1.1 a.2.1.1.2.1 a.2.1.2.1 p r s [a.1, a.2.1] (([a.1, a.2.1] : List DY).length : Int) 0 = κ0 p r (IntKind.i64.wrap (s + 1)) ∧ fits06 a) := by
  rcases loop_or 2 (fun _ => ()) (fun k' _ i => w06_fit_l1 K κ0 k' a.1.1.1 a.1.1.2.1 a.1.2.1 a.2.1.1.1 a.2.1.1.2.1 a.2.1.2.1 p r s [a.1, a.2.1] (([a.1, a.2.1] : List DY).length : Int) i) (fun r => r = some (false, ())) (fun i => sz 10 200 (([a.1, a.2.1] : List DY).getD i dy0)) (fun k' i hk hi => by
    simp only [w06_fit_l1, w06_fit_s1]
    have hl : (([a.1, a.2.1] : List DY).length : Int) = 2 := rfl
    rw [ct (by omega), ct (by omega), ct (by omega), Int.toNat_natCast]
    generalize hd : ([a.1, a.2.1] : List DY).getD i ((false, ([], ())), (0, ())) = d
    by_cases h1 : 10 < d.1.2.1.length
    · right; rw [ct (by omega)]
    rw [cf (by omega)]
    by_cases h2 : 200 < d.2.1
    · right; rw [ct h2]
    rw [cf h2]
    by_cases h3 : d.2.1 < -200
    · right; rw [ct h3]
    · left; rw [cf h3, wi1 (by omega)]; exact ⟨rfl, by unfold sz; omega⟩) (k + 3) (by omega) with h | ⟨k', e, h⟩
  · exact .inl h
  · have z1 := h 0 (by decide)
    have z2 := h 1 (by decide)
    have e' : w06_fit_l1 K κ0 (k + 3) a.1.1.1 a.1.1.2.1 a.1.2.1 a.2.1.1.1 a.2.1.1.2.1 a.2.1.2.1 p r s [a.1, a.2.1] (([a.1, a.2.1] : List DY).length : Int) 0 = _ := e
    rw [e']
    simp only [w06_fit_l1, w06_fit_s1]
    have hl : (([a.1, a.2.1] : List DY).length : Int) = 2 := rfl
    rw [cf (by omega)]
    rcases span_Check_full ha with ⟨c, c0, e⟩ | ⟨e, y1, y2, hle⟩
    · left; rw [show S.span_Check _ = _ from e, Option.bind_some]; simp only; rw [decide_eq_false c0]; rfl
    · right
      rw [show S.span_Check _ = _ from e, Option.bind_some]
      obtain ⟨a1, a2, a3⟩ := z1
      obtain ⟨b1, b2, b3⟩ := z2
      exact ⟨rfl, isS_Sp (B := 200) (n := 10) (k := 23) y1 y2 hle a1 b1 a2 a3 b2 b3 (by decide) (by decide) (by decide)⟩
theorem w06_fit_in {l : List SP} (hl : l.length ≤ 16) (h : ∀ s ∈ l, inS s) : S.w06_fit (l, ()) = some (false, ()) ∨ (S.w06_fit (l, ()) = some (true, ()) ∧ ∀ i < l.length, fits06 (l.getD i sp0)) := by
  simp only [S.w06_fit, L.w06_fit, w06_fit_b]
  rcases loop_or l.length (fun _ => ()) (fun k _ i => w06_fit_l0 100 k l (l.length : Int) i) (fun r => r = some (false, ())) (fun i => fits06 (l.getD i sp0)) (fun k i hk hi => by
    simp only [w06_fit_l0, w06_fit_s0]
    rw [ct (by omega), ct (by omega), ct (by omega), Int.toNat_natCast]
    have hm : l.getD i sp0 ∈ l := by rw [List.getD_eq_getElem?_getD, List.getElem?_eq_getElem hi]; exact List.getElem_mem hi
    rcases fit06_two (K := 100) (k := 97) (κ0 := w06_fit_l0 100 k) (p := l) (r := (l.length : Int)) (s := (i : Int)) (h _ hm) with e | ⟨e, q⟩
    · right; exact e
    · left; refine ⟨?_, q⟩
      rw [← wi1 (by omega)]; exact e) 100 (by omega) with h | ⟨k, e, h⟩
  · exact .inl h
  · right
    refine ⟨?_, h⟩
    have e' : w06_fit_l0 100 100 l (l.length : Int) 0 = _ := e
    rw [e']
    simp only [w06_fit_l0, w06_fit_s0]
    rw [cf (by omega)]
theorem w06_fit2 {a b : SP} (ha : inS a) (hb : inS b) : S.w06_fit ([a, b], ()) = some (false, ()) ∨ (S.w06_fit ([a, b], ()) = some (true, ()) ∧ fits06 a ∧ fits06 b) := by
  rcases w06_fit_in (l := [a, b]) (by simp) (fun l hl => by
      rcases List.mem_cons.1 hl with rfl | h
      · exact ha
      · rcases List.mem_cons.1 h with rfl | h
        · exact hb
        · cases h) with h | ⟨h, h2⟩
  · exact .inl h
  · exact .inr ⟨h, h2 0 (by simp), h2 1 (by simp)⟩
theorem span_HasRatio_Yn {l h e : Int} {q : Rat} {k i j : Nat} (hl : lt2 l h k) (hk : k ≤ 500) (hki : k ≤ i) (he0 : -5000 ≤ e) (he1 : e ≤ 0) (hi : -e < 32 * (i : Int)) (hq : big q j) (hj : i + j ≤ 512) (h1 : dv l e ≤ q) (h2 : q ≤ dv h e) : S.span_HasRatio (Sp l h e, R q, ()) = some (true, 0, ()) := by
  have e0 : ∀ (a : SP) (r : RT), S.span_HasRatio (a, r, ()) = (S.dyad_Cmp (a.1, r, ())).bind fun z1 => cond (!(decide (z1.2.1 = 0))) (some (false, z1.2.1, ())) ((S.dyad_Cmp (a.2.1, r, ())).bind fun z2 => cond (decide (z2.2.1 = 0)) (cond (decide (z1.1 ≤ 0)) (some (decide (0 ≤ z2.1), z2.2.1, ())) (some (false, z2.2.1, ()))) (some (false, z2.2.1, ()))) := fun _ _ => rfl
  have c1 := dyad_Cmp_Yn hl.1 hk hki he0 he1 hi hq hj
  have c2 := dyad_Cmp_Yn hl.2 hk hki he0 he1 hi hq hj
  rw [e0, show S.dyad_Cmp _ = _ from c1, Option.bind_some]
  simp only [decide_true, Bool.not_true, cond_false]
  rw [show S.dyad_Cmp _ = _ from c2, Option.bind_some]
  simp only [decide_true, cond_true]
  rw [ct (sgq_le h1), decide_eq_true (sgq_ge h2)]
/-- girdlelaw06.has -/
def w06_has (a : ((Bool × (List Int) × Unit) × Int × Unit) × ((Bool × (List Int) × Unit) × Int × Unit) × Unit) (e : Int) (r : (Bool × (List Int) × Unit) × (List Int) × Unit) (bits : Int) : Option (Bool × Unit) :=
  (S.span_HasRatio ((((a.1.1.1, a.1.1.2.1, ()), a.1.2.1, ()), ((a.2.1.1.1, a.2.1.1.2.1, ()), a.2.1.2.1, ()), ()), ((r.1.1, r.1.2.1, ()), r.2.1, ()), ())).bind fun z1 =>
  cond (decide (e = 0))
    (
      cond (decide (z1.2.1 = 0))
        (
          cond (z1.1)
            (
              (S.limbs_Bits (a.1.1.2.1, ())).bind fun z2 =>
              cond (decide (z2.1 ≤ bits))
                (
                  (S.limbs_Bits (a.2.1.1.2.1, ())).bind fun z3 =>
                  cond (decide (z3.1 ≤ bits))
                    (
                      (S.span_Check ((((a.1.1.1, a.1.1.2.1, ()), a.1.2.1, ()), ((a.2.1.1.1, a.2.1.1.2.1, ()), a.2.1.2.1, ()), ()), ())).bind fun z4 =>
                      some (decide (z4.1 = 0), ())) (some (false, ()))) (some (false, ()))) (some (false, ()))) (some (false, ()))) (some (false, ()))

def S.w06_has (x : SP × Int × RT × Int × Unit) : Option (Bool × Unit) := L.w06_has x.1 x.2.1 x.2.2.1 x.2.2.2.1
theorem w06_has_true {l h e : Int} {q : Rat} {b k i j : Nat} (hl : lt2 l h k) (hk : k ≤ 490) (hki : k ≤ i) (he0 : -5000 ≤ e) (he1 : e ≤ 0) (hi : -e < 32 * (i : Int)) (hq : big q j) (hj : i + j ≤ 512) (h1 : dv l e ≤ q) (h2 : q ≤ dv h e) (hb : 1 ≤ b) (f1 : few b l) (f2 : few b h) : S.w06_has (Sp l h e, 0, R q, (b : Int), ()) = some (true, ()) := by
  have e0 : ∀ (a : SP) (e : Int) (r : RT) (b : Int), S.w06_has (a, e, r, b, ()) = (S.span_HasRatio (a, r, ())).bind fun z1 => cond (decide (e = 0)) (cond (decide (z1.2.1 = 0)) (cond z1.1 ((S.limbs_Bits (a.1.1.2.1, ())).bind fun z2 => cond (decide (z2.1 ≤ b)) ((S.limbs_Bits (a.2.1.1.2.1, ())).bind fun z3 => cond (decide (z3.1 ≤ b)) ((S.span_Check (a, ())).bind fun z4 => some (decide (z4.1 = 0), ())) (some (false, ()))) (some (false, ()))) (some (false, ()))) (some (false, ()))) (some (false, ())) := fun _ _ _ _ => rfl
  have c1 := span_HasRatio_Yn hl (by omega) hki he0 he1 hi hq hj h1 h2
  have g1 : S.limbs_Bits ((Yd l e).1.2.1, ()) = some ((bl (od l) : Int), ()) := Bits_I (x := od l) (P1000 (Yd_abs hl.1) (by omega))
  have g2 : S.limbs_Bits ((Yd h e).1.2.1, ()) = some ((bl (od h) : Int), ()) := Bits_I (x := od h) (P1000 (Yd_abs hl.2) (by omega))
  have c2 := span_Check_Sp (e := e) hl (dv_le.1 (Rat.le_trans h1 h2)) hk (by omega) (by omega)
  have b1 := few_bl hb f1
  have b2 := few_bl hb f2
  rw [e0, c1, Option.bind_some]
  simp only [decide_true, cond_true]
  rw [g1, Option.bind_some, ct (by simp only; omega), g2, Option.bind_some, ct (by simp only; omega), c2, Option.bind_some]
  rfl
/-- girdlelaw06.at -/
def w06_at (a : ((Bool × (List Int) × Unit) × Int × Unit) × ((Bool × (List Int) × Unit) × Int × Unit) × Unit) (part : Int) : Option (((Bool × (List Int) × Unit) × (List Int) × Unit) × Unit) :=
  (S.dyad_Ratio (((a.1.1.1, a.1.1.2.1, ()), a.1.2.1, ()), ())).bind fun z1 =>
  (S.dyad_Ratio (((a.2.1.1.1, a.2.1.1.2.1, ()), a.2.1.2.1, ()), ())).bind fun z2 =>
  (S.ratio_Sub (((z2.1.1.1, z2.1.1.2.1, ()), z2.1.2.1, ()), ((z1.1.1.1, z1.1.1.2.1, ()), z1.1.2.1, ()), ())).bind fun z3 =>
  (S.ratio_Of (((ibits .and .i64 part 127).tmod 101), 100, ())).bind fun z6 =>
  (S.ratio_Mul (((z3.1.1.1, z3.1.1.2.1, ()), z3.1.2.1, ()), ((z6.1.1.1, z6.1.1.2.1, ()), z6.1.2.1, ()), ())).bind fun z7 =>
  (S.ratio_Add (((z1.1.1.1, z1.1.1.2.1, ()), z1.1.2.1, ()), ((z7.1.1.1, z7.1.1.2.1, ()), z7.1.2.1, ()), ())).bind fun z8 =>
  some (((z8.1.1.1, z8.1.1.2.1, ()), z8.1.2.1, ()), ())

def S.w06_at (x : SP × Int × Unit) : Option (RT × Unit) := L.w06_at x.1 x.2.1
theorem and127 (p : Int) : 0 ≤ ibits .and .i64 p 127 ∧ ibits .and .i64 p 127 ≤ 127 := by
  simp only [ibits, BitVec.toNat_and]
  have h : (BitVec.ofInt IntKind.i64.bits p).toNat &&& (BitVec.ofInt IntKind.i64.bits 127).toNat ≤ 127 := Nat.and_le_right
  generalize (BitVec.ofInt IntKind.i64.bits p).toNat &&& (BitVec.ofInt IntKind.i64.bits 127).toNat = m at h
  rw [wi64 (by omega) (by omega)]
  omega
theorem w06_at_Sp {l h : Int} (p : Int) (hl : lt2 l h 23) (hlh : l ≤ h) : ∃ q : Rat, S.w06_at (Sp l h (-((200 : Nat) : Int)), p, ()) = some (R q, ()) ∧ big q 73 ∧ dv l (-((200 : Nat) : Int)) ≤ q ∧ q ≤ dv h (-((200 : Nat) : Int)) := by
  obtain ⟨r1, b1⟩ := dyad_Ratio_Yn (e := -((200 : Nat) : Int)) (j := 23) hl.1 (by decide) (by decide) (by decide) (by decide) (by decide)
  obtain ⟨r2, b2⟩ := dyad_Ratio_Yn (e := -((200 : Nat) : Int)) (j := 23) hl.2 (by decide) (by decide) (by decide) (by decide) (by decide)
  have e3 := ratio_Sub_R b2 b1 (by decide)
  have b3 := big_sub b2 b1
  have h127 := and127 p
  obtain ⟨t, ht⟩ : ∃ t, (ibits .and .i64 p 127).tmod 101 = t := ⟨_, rfl⟩
  have ht0 : 0 ≤ t ∧ t ≤ 100 := by
    rw [← ht, Int.tmod_eq_emod_of_nonneg h127.1]; omega
  have e4 := ratio_Of_R (n := t) (d := 100) (by omega) (by omega) (by decide) (by decide) (by decide)
  have b4 : big (Rat.divInt t 100) 1 := big_frac (k := 1) (by rw [show P 1 = 4294967296 from by decide]; omega) (by decide) (by decide)
  have e5 := ratio_Mul_R b3 b4 (by decide)
  have b5 := big_mul b3 b4
  have e6 := ratio_Add_R b1 b5 (by decide)
  have b6 := big_add b1 b5
  have e0 : ∀ (a : SP) (p : Int), S.w06_at (a, p, ()) = (S.dyad_Ratio (a.1, ())).bind fun z1 => (S.dyad_Ratio (a.2.1, ())).bind fun z2 => (S.ratio_Sub (z2.1, z1.1, ())).bind fun z3 => (S.ratio_Of (((ibits .and .i64 p 127).tmod 101), 100, ())).bind fun z6 => (S.ratio_Mul (z3.1, z6.1, ())).bind fun z7 => (S.ratio_Add (z1.1, z7.1, ())).bind fun z8 => some (z8.1, ()) := fun _ _ => rfl
  refine ⟨dv l (-((200 : Nat) : Int)) + (dv h (-((200 : Nat) : Int)) - dv l (-((200 : Nat) : Int))) * Rat.divInt t 100, ?_, b6.mono (by decide), ?_, ?_⟩
  · rw [e0, r1, Option.bind_some, r2, Option.bind_some]
    simp only
    rw [e3, Option.bind_some, ht, e4, Option.bind_some]
    simp only
    rw [e5, Option.bind_some]
    simp only
    rw [e6, Option.bind_some]
  · have hd : 0 ≤ dv h (-((200 : Nat) : Int)) - dv l (-((200 : Nat) : Int)) := by
      have := (dv_le (e := -((200 : Nat) : Int))).2 hlh; grind
    have ht : (0 : Rat) ≤ Rat.divInt t 100 := by
      rw [Rat.divInt_eq_div]
      have : (0 : Rat) ≤ (t : Rat) := Rat.intCast_nonneg.2 ht0.1
      grind
    have := Rat.mul_nonneg hd ht
    grind
  · have hd : 0 ≤ dv h (-((200 : Nat) : Int)) - dv l (-((200 : Nat) : Int)) := by
      have := (dv_le (e := -((200 : Nat) : Int))).2 hlh; grind
    have ht : (0 : Rat) ≤ 1 - Rat.divInt t 100 := by
      rw [Rat.divInt_eq_div]
      have : (t : Rat) ≤ ((100 : Int) : Rat) := Rat.intCast_le_intCast.2 ht0.2
      have e : ((100 : Int) : Rat) = 100 := rfl
      grind
    have := Rat.mul_nonneg hd ht
    grind
end Go.L

/-! UB -/
namespace Go.L
open Go.PM
set_option exponentiation.threshold 20000
set_option linter.unusedVariables false
set_option linter.unusedSimpArgs false

theorem rup_few (x : Int) (b : Nat) : few b (rup x b) := few_neg (rdn_few (-x) b)
/-- girdlelaw06.SpanNear -/
def w06_SpanNear (r : (Bool × (List Int) × Unit) × (List Int) × Unit) (bits : Int) (fewer : Int) : Option (Bool × Unit) :=
  (S.w06_between (())).bind fun z1 =>
  cond (!z1.1) (some (false, ()))
    (
      cond (decide (10 < (r.1.2.1.length : Int))) (some (true, ()))
        (
          cond (decide (10 < (r.2.1.length : Int))) (some (true, ()))
            (
              (S.ratio_Check (((r.1.1, r.1.2.1, ()), r.2.1, ()), ())).bind fun z2 =>
              cond (!(decide (z2.1 = 0))) (some (true, ()))
                (
                  cond (decide (bits < 2)) (some (true, ()))
                    (
                      cond (decide (1000 < bits)) (some (true, ()))
                        (
                          cond (decide (fewer < 2)) (some (true, ()))
                            (
                              cond (decide (bits < fewer)) (some (true, ()))
                                (
                                  (S.span_Near (((r.1.1, r.1.2.1, ()), r.2.1, ()), bits, ())).bind fun z3 =>
                                  (S.span_Round ((((z3.1.1.1.1, z3.1.1.1.2.1, ()), z3.1.1.2.1, ()), ((z3.1.2.1.1.1, z3.1.2.1.1.2.1, ()), z3.1.2.1.2.1, ()), ()), fewer, ())).bind fun z4 =>
                                  (S.w06_has ((((z3.1.1.1.1, z3.1.1.1.2.1, ()), z3.1.1.2.1, ()), ((z3.1.2.1.1.1, z3.1.2.1.1.2.1, ()), z3.1.2.1.2.1, ()), ()), z3.2.1, ((r.1.1, r.1.2.1, ()), r.2.1, ()), bits, ())).bind fun z5 =>
                                  cond (z5.1)
                                    (
                                      (S.w06_has ((((z4.1.1.1.1, z4.1.1.1.2.1, ()), z4.1.1.2.1, ()), ((z4.1.2.1.1.1, z4.1.2.1.1.2.1, ()), z4.1.2.1.2.1, ()), ()), z4.2.1, ((r.1.1, r.1.2.1, ()), r.2.1, ()), fewer, ())).bind fun z6 =>
                                      cond (z6.1)
                                        (
                                          (S.span_Holds ((((z4.1.1.1.1, z4.1.1.1.2.1, ()), z4.1.1.2.1, ()), ((z4.1.2.1.1.1, z4.1.2.1.1.2.1, ()), z4.1.2.1.2.1, ()), ()), (((z3.1.1.1.1, z3.1.1.1.2.1, ()), z3.1.1.2.1, ()), ((z3.1.2.1.1.1, z3.1.2.1.1.2.1, ()), z3.1.2.1.2.1, ()), ()), ())).bind fun z7 =>
                                          some (z7.1, ())) (some (false, ()))) (some (false, ()))))))))))

/-- girdlelaw06.SpanSizes -/
def w06_SpanSizes (a : ((Bool × (List Int) × Unit) × Int × Unit) × ((Bool × (List Int) × Unit) × Int × Unit) × Unit) (part : Int) : Option (Bool × Unit) :=
  (S.w06_between (())).bind fun z1 =>
  cond (!z1.1) (some (false, ()))
    (
      (S.w06_fit ([(((a.1.1.1, a.1.1.2.1, ()), a.1.2.1, ()), ((a.2.1.1.1, a.2.1.1.2.1, ()), a.2.1.2.1, ()), ())], ())).bind fun z2 =>
      cond (!z2.1) (some (true, ()))
        (
          (S.w06_at ((((a.1.1.1, a.1.1.2.1, ()), a.1.2.1, ()), ((a.2.1.1.1, a.2.1.1.2.1, ()), a.2.1.2.1, ()), ()), part, ())).bind fun z3 =>
          (S.span_Size ((((a.1.1.1, a.1.1.2.1, ()), a.1.2.1, ()), ((a.2.1.1.1, a.2.1.1.2.1, ()), a.2.1.2.1, ()), ()), ())).bind fun z4 =>
          (S.ratio_Abs (((z3.1.1.1, z3.1.1.2.1, ()), z3.1.2.1, ()), ())).bind fun z5 =>
          (S.dyad_Cmp (((z4.1.1.1, z4.1.1.2.1, ()), z4.1.2.1, ()), ((z5.1.1.1, z5.1.1.2.1, ()), z5.1.2.1, ()), ())).bind fun z6 =>
          (S.span_Width ((((a.1.1.1, a.1.1.2.1, ()), a.1.2.1, ()), ((a.2.1.1.1, a.2.1.1.2.1, ()), a.2.1.2.1, ()), ()), ())).bind fun z7 =>
          (S.span_Middle ((((a.1.1.1, a.1.1.2.1, ()), a.1.2.1, ()), ((a.2.1.1.1, a.2.1.1.2.1, ()), a.2.1.2.1, ()), ()), ())).bind fun z8 =>
          cond (!(decide (z6.2.1 = 0))) (some (false, ()))
            (
              cond (!(decide (z7.2.1 = 0))) (some (false, ()))
                (
                  cond (!(decide (z8.2.1 = 0))) (some (false, ()))
                    (
                      cond (decide (z6.1 < 0)) (some (false, ()))
                        (
                          (S.dyad_Sign (((z7.1.1.1, z7.1.1.2.1, ()), z7.1.2.1, ()), ())).bind fun z9 =>
                          cond (decide (z9.1 < 0)) (some (false, ()))
                            (
                              (S.span_Has ((((a.1.1.1, a.1.1.2.1, ()), a.1.2.1, ()), ((a.2.1.1.1, a.2.1.1.2.1, ()), a.2.1.2.1, ()), ()), ((z8.1.1.1, z8.1.1.2.1, ()), z8.1.2.1, ()), ())).bind fun z10 =>
                              cond (!z10.1) (some (false, ()))
                                (
                                  (S.dyad_Sub (((a.2.1.1.1, a.2.1.1.2.1, ()), a.2.1.2.1, ()), ((z8.1.1.1, z8.1.1.2.1, ()), z8.1.2.1, ()), ())).bind fun z11 =>
                                  (S.dyad_Sub (((z8.1.1.1, z8.1.1.2.1, ()), z8.1.2.1, ()), ((a.1.1.1, a.1.1.2.1, ()), a.1.2.1, ()), ())).bind fun z12 =>
                                  (S.dyad_Add (((a.1.1.1, a.1.1.2.1, ()), a.1.2.1, ()), ((z7.1.1.1, z7.1.1.2.1, ()), z7.1.2.1, ()), ())).bind fun z13 =>
                                  (S.span_Size ((((a.1.1.1, a.1.1.2.1, ()), a.1.2.1, ()), ((a.2.1.1.1, a.2.1.1.2.1, ()), a.2.1.2.1, ()), ()), ())).bind fun z14 =>
                                  (S.dyad_Abs (((a.1.1.1, a.1.1.2.1, ()), a.1.2.1, ()), ())).bind fun z15 =>
                                  (S.dyad_Compare (((z14.1.1.1, z14.1.1.2.1, ()), z14.1.2.1, ()), ((z15.1.1.1, z15.1.1.2.1, ()), z15.1.2.1, ()), ())).bind fun z16 =>
                                  cond (decide (z16.1 = 0))
                                    (
                                      (S.dyad_Compare (((z11.1.1.1, z11.1.1.2.1, ()), z11.1.2.1, ()), ((z12.1.1.1, z12.1.1.2.1, ()), z12.1.2.1, ()), ())).bind fun z17 =>
                                      cond (decide (z17.1 = 0))
                                        (
                                          (S.dyad_Compare (((z13.1.1.1, z13.1.1.2.1, ()), z13.1.2.1, ()), ((a.2.1.1.1, a.2.1.1.2.1, ()), a.2.1.2.1, ()), ())).bind fun z18 =>
                                          cond (decide (z18.1 = 0)) (some (true, ())) (some (false, ()))) (some (false, ())))
                                    (
                                      (S.span_Size ((((a.1.1.1, a.1.1.2.1, ()), a.1.2.1, ()), ((a.2.1.1.1, a.2.1.1.2.1, ()), a.2.1.2.1, ()), ()), ())).bind fun z19 =>
                                      (S.dyad_Abs (((a.2.1.1.1, a.2.1.1.2.1, ()), a.2.1.2.1, ()), ())).bind fun z20 =>
                                      (S.dyad_Compare (((z19.1.1.1, z19.1.1.2.1, ()), z19.1.2.1, ()), ((z20.1.1.1, z20.1.1.2.1, ()), z20.1.2.1, ()), ())).bind fun z21 =>
                                      (S.dyad_Compare (((z11.1.1.1, z11.1.1.2.1, ()), z11.1.2.1, ()), ((z12.1.1.1, z12.1.1.2.1, ()), z12.1.2.1, ()), ())).bind fun z22 =>
                                      cond (decide (z22.1 = 0))
                                        (
                                          (S.dyad_Compare (((z13.1.1.1, z13.1.1.2.1, ()), z13.1.2.1, ()), ((a.2.1.1.1, a.2.1.1.2.1, ()), a.2.1.2.1, ()), ())).bind fun z23 =>
                                          cond (decide (z23.1 = 0)) (some (decide (z21.1 = 0), ())) (some (false, ()))) (some (false, ())))))))))))

/-- girdlelaw06.SpanHolds -/
def w06_SpanHolds (a : ((Bool × (List Int) × Unit) × Int × Unit) × ((Bool × (List Int) × Unit) × Int × Unit) × Unit) (b : ((Bool × (List Int) × Unit) × Int × Unit) × ((Bool × (List Int) × Unit) × Int × Unit) × Unit) (parts : Int × Int × Int × Unit) : Option (Bool × Unit) :=
  (S.w06_between (())).bind fun z1 =>
  cond (!z1.1) (some (false, ()))
    (
      (S.w06_fit ([(((a.1.1.1, a.1.1.2.1, ()), a.1.2.1, ()), ((a.2.1.1.1, a.2.1.1.2.1, ()), a.2.1.2.1, ()), ()), (((b.1.1.1, b.1.1.2.1, ()), b.1.2.1, ()), ((b.2.1.1.1, b.2.1.1.2.1, ()), b.2.1.2.1, ()), ())], ())).bind fun z2 =>
      cond (!z2.1) (some (true, ()))
        (
          cond (decide (parts.2.2.1 < 2)) (some (true, ()))
            (
              cond (decide (500 < parts.2.2.1)) (some (true, ()))
                (
                  (S.w06_at ((((a.1.1.1, a.1.1.2.1, ()), a.1.2.1, ()), ((a.2.1.1.1, a.2.1.1.2.1, ()), a.2.1.2.1, ()), ()), parts.1, ())).bind fun z3 =>
                  (S.w06_at ((((b.1.1.1, b.1.1.2.1, ()), b.1.2.1, ()), ((b.2.1.1.1, b.2.1.1.2.1, ()), b.2.1.2.1, ()), ()), parts.2.1, ())).bind fun z4 =>
                  (S.span_Add ((((a.1.1.1, a.1.1.2.1, ()), a.1.2.1, ()), ((a.2.1.1.1, a.2.1.1.2.1, ()), a.2.1.2.1, ()), ()), (((b.1.1.1, b.1.1.2.1, ()), b.1.2.1, ()), ((b.2.1.1.1, b.2.1.1.2.1, ()), b.2.1.2.1, ()), ()), parts.2.2.1, ())).bind fun z5 =>
                  (S.span_Sub ((((a.1.1.1, a.1.1.2.1, ()), a.1.2.1, ()), ((a.2.1.1.1, a.2.1.1.2.1, ()), a.2.1.2.1, ()), ()), (((b.1.1.1, b.1.1.2.1, ()), b.1.2.1, ()), ((b.2.1.1.1, b.2.1.1.2.1, ()), b.2.1.2.1, ()), ()), parts.2.2.1, ())).bind fun z6 =>
                  (S.span_Mul ((((a.1.1.1, a.1.1.2.1, ()), a.1.2.1, ()), ((a.2.1.1.1, a.2.1.1.2.1, ()), a.2.1.2.1, ()), ()), (((b.1.1.1, b.1.1.2.1, ()), b.1.2.1, ()), ((b.2.1.1.1, b.2.1.1.2.1, ()), b.2.1.2.1, ()), ()), parts.2.2.1, ())).bind fun z7 =>
                  (S.span_Round ((((a.1.1.1, a.1.1.2.1, ()), a.1.2.1, ()), ((a.2.1.1.1, a.2.1.1.2.1, ()), a.2.1.2.1, ()), ()), parts.2.2.1, ())).bind fun z8 =>
                  (S.ratio_Add (((z3.1.1.1, z3.1.1.2.1, ()), z3.1.2.1, ()), ((z4.1.1.1, z4.1.1.2.1, ()), z4.1.2.1, ()), ())).bind fun z9 =>
                  (S.ratio_Sub (((z3.1.1.1, z3.1.1.2.1, ()), z3.1.2.1, ()), ((z4.1.1.1, z4.1.1.2.1, ()), z4.1.2.1, ()), ())).bind fun z10 =>
                  (S.ratio_Mul (((z3.1.1.1, z3.1.1.2.1, ()), z3.1.2.1, ()), ((z4.1.1.1, z4.1.1.2.1, ()), z4.1.2.1, ()), ())).bind fun z11 =>
                  (S.ratio_Sum ([((z3.1.1.1, z3.1.1.2.1, ()), z3.1.2.1, ()), ((z4.1.1.1, z4.1.1.2.1, ()), z4.1.2.1, ()), ((z3.1.1.1, z3.1.1.2.1, ()), z3.1.2.1, ())], ())).bind fun z12 =>
                  (S.span_Sum (parts.2.2.1, [(((a.1.1.1, a.1.1.2.1, ()), a.1.2.1, ()), ((a.2.1.1.1, a.2.1.1.2.1, ()), a.2.1.2.1, ()), ()), (((b.1.1.1, b.1.1.2.1, ()), b.1.2.1, ()), ((b.2.1.1.1, b.2.1.1.2.1, ()), b.2.1.2.1, ()), ()), (((a.1.1.1, a.1.1.2.1, ()), a.1.2.1, ()), ((a.2.1.1.1, a.2.1.1.2.1, ()), a.2.1.2.1, ()), ())], ())).bind fun z13 =>
                  (S.w06_has ((((z5.1.1.1.1, z5.1.1.1.2.1, ()), z5.1.1.2.1, ()), ((z5.1.2.1.1.1, z5.1.2.1.1.2.1, ()), z5.1.2.1.2.1, ()), ()), z5.2.1, ((z9.1.1.1, z9.1.1.2.1, ()), z9.1.2.1, ()), parts.2.2.1, ())).bind fun z14 =>
                  cond (z14.1)
                    (
                      (S.w06_has ((((z6.1.1.1.1, z6.1.1.1.2.1, ()), z6.1.1.2.1, ()), ((z6.1.2.1.1.1, z6.1.2.1.1.2.1, ()), z6.1.2.1.2.1, ()), ()), z6.2.1, ((z10.1.1.1, z10.1.1.2.1, ()), z10.1.2.1, ()), parts.2.2.1, ())).bind fun z15 =>
                      cond (z15.1)
                        (
                          (S.w06_has ((((z7.1.1.1.1, z7.1.1.1.2.1, ()), z7.1.1.2.1, ()), ((z7.1.2.1.1.1, z7.1.2.1.1.2.1, ()), z7.1.2.1.2.1, ()), ()), z7.2.1, ((z11.1.1.1, z11.1.1.2.1, ()), z11.1.2.1, ()), parts.2.2.1, ())).bind fun z16 =>
                          cond (z16.1)
                            (
                              (S.w06_has ((((z8.1.1.1.1, z8.1.1.1.2.1, ()), z8.1.1.2.1, ()), ((z8.1.2.1.1.1, z8.1.2.1.1.2.1, ()), z8.1.2.1.2.1, ()), ()), z8.2.1, ((z3.1.1.1, z3.1.1.2.1, ()), z3.1.2.1, ()), parts.2.2.1, ())).bind fun z17 =>
                              cond (z17.1)
                                (
                                  (S.w06_has ((((z13.1.1.1.1, z13.1.1.1.2.1, ()), z13.1.1.2.1, ()), ((z13.1.2.1.1.1, z13.1.2.1.1.2.1, ()), z13.1.2.1.2.1, ()), ()), z13.2.1, ((z12.1.1.1, z12.1.1.2.1, ()), z12.1.2.1, ()), parts.2.2.1, ())).bind fun z18 =>
                                  some (z18.1, ())) (some (false, ()))) (some (false, ()))) (some (false, ()))) (some (false, ()))))))

/-- Products of ratios between dyads. -/
theorem q_mul_mid {l h l' h' e e' : Int} {x y : Rat} (h1 : dv l e ≤ x) (h2 : x ≤ dv h e) (h3 : dv l' e' ≤ y) (h4 : y ≤ dv h' e') : dv (mlo l h l' h') (e + e') ≤ x * y ∧ x * y ≤ dv (mhi l h l' h') (e + e') := by
  have hlh : l ≤ h := dv_le.1 (Rat.le_trans h1 h2)
  have a := dv_mul_le (l := l) (h := h) (x := l) (e := e) (Int.le_refl l) hlh h3 h4
  have b := dv_mul_le (l := l) (h := h) (x := h) (e := e) hlh (Int.le_refl h) h3 h4
  by_cases hy : 0 ≤ y
  · have c1 := Rat.mul_le_mul_of_nonneg_right h1 hy
    have c2 := Rat.mul_le_mul_of_nonneg_right h2 hy
    grind
  · have hy' : 0 ≤ -y := by grind
    have c1 := Rat.mul_le_mul_of_nonneg_right h1 hy'
    have c2 := Rat.mul_le_mul_of_nonneg_right h2 hy'
    grind
theorem SpanHolds_true {a b : SP} {parts : Int × Int × Int × Unit} (ha : inS a) (hb : inS b) : w06_SpanHolds a b parts = some (true, ()) := by
  unfold w06_SpanHolds
  rw [w06_between_true, Option.bind_some]
  simp only [Bool.not_true, cond_false]
  rcases w06_fit2 ha hb with e | ⟨e, ⟨l, h, rfl, hl, hlh⟩, l', h', rfl, hl', hlh'⟩
  · rw [show S.w06_fit _ = _ from e]; rfl
  rw [show S.w06_fit _ = _ from e, Option.bind_some]
  simp only [Bool.not_true, cond_false]
  by_cases h1 : parts.2.2.1 < 2
  · rw [ct h1]
  rw [cf h1]
  by_cases h2 : 500 < parts.2.2.1
  · rw [ct h2]
  rw [cf h2]
  obtain ⟨v, hv⟩ : ∃ v : Nat, parts.2.2.1 = v := ⟨parts.2.2.1.toNat, by omega⟩
  rw [hv] at h1 h2 ⊢
  obtain ⟨x, at1, bx, x1, x2⟩ := w06_at_Sp parts.1 hl hlh
  obtain ⟨y, at2, by_, y1, y2⟩ := w06_at_Sp parts.2.1 hl' hlh'
  have e1 := span_Add_Sp (e := -((200 : Nat) : Int)) (b := v) hl hl' (by decide) (by decide) (by decide) (by omega) (by omega)
  have e2 := span_Sub_Sp (e := -((200 : Nat) : Int)) (b := v) hl hl' (by decide) (by decide) (by decide) (by omega) (by omega)
  have e3 := span_Mul_Sp (e := -((200 : Nat) : Int)) (f := -((200 : Nat) : Int)) (b := v) hl hl' (by decide) (by decide) (by decide) (by decide) (by decide) (by omega) (by omega)
  have e4 := span_Round_Sp (e := -((200 : Nat) : Int)) (b := v) hl (by decide) (by decide) (by decide) (by omega) (by omega)
  have e5 := ratio_Add_R bx by_ (by decide)
  have e6 := ratio_Sub_R bx by_ (by decide)
  have e7 := ratio_Mul_R bx by_ (by decide)
  have z1 : lt2 (rdn (l + l') v) (rup (h + h') v) 25 := ⟨rdn_abs (nA_add hl.1 hl'.1), rup_abs (nA_add hl.2 hl'.2)⟩
  have z2 : lt2 (rdn (l - h') v) (rup (h - l') v) 25 := ⟨rdn_abs (by rw [Int.sub_eq_add_neg]; exact nA_add hl.1 (by rw [Int.natAbs_neg]; exact hl'.2)), rup_abs (by rw [Int.sub_eq_add_neg]; exact nA_add hl.2 (by rw [Int.natAbs_neg]; exact hl'.1))⟩
  have m3 := mlo_abs hl hl'
  have z3 : lt2 (rdn (mlo l h l' h') v) (rup (mhi l h l' h') v) 47 := ⟨rdn_abs m3.1, rup_abs m3.2⟩
  have z4 : lt2 (rdn l v) (rup h v) 24 := ⟨rdn_abs hl.1, rup_abs hl.2⟩
  have d := fun (x y : Int) (hxy : x ≤ y) => (dv_le (e := -((200 : Nat) : Int))).2 hxy
  have d1 := d _ _ (rdn_le (l + l') v)
  have d2 := d _ _ (rup_ge (h + h') v)
  have d3 := d _ _ (rdn_le (l - h') v)
  have d4 := d _ _ (rup_ge (h - l') v)
  have d5 := d _ _ (rdn_le l v)
  have d6 := d _ _ (rup_ge h v)
  rw [dv_add] at d1 d2
  rw [dv_sub] at d3 d4
  obtain ⟨p1, p2⟩ := q_mul_mid (e := -((200 : Nat) : Int)) (e' := -((200 : Nat) : Int)) x1 x2 y1 y2
  have d7 := (dv_le (e := -((200 : Nat) : Int) + -((200 : Nat) : Int))).2 (rdn_le (mlo l h l' h') v)
  have d8 := (dv_le (e := -((200 : Nat) : Int) + -((200 : Nat) : Int))).2 (rup_ge (mhi l h l' h') v)
  have t1 := w06_has_true (e := -((200 : Nat) : Int)) (b := v) (i := 30) z1 (by decide) (by decide) (by decide) (by decide) (by decide) (big_add bx by_) (by decide) (by grind) (by grind) (by omega) (rdn_few _ v) (rup_few _ v)
  have t2 := w06_has_true (e := -((200 : Nat) : Int)) (b := v) (i := 30) z2 (by decide) (by decide) (by decide) (by decide) (by decide) (big_sub bx by_) (by decide) (by grind) (by grind) (by omega) (rdn_few _ v) (rup_few _ v)
  have t3 := w06_has_true (e := -((200 : Nat) : Int) + -((200 : Nat) : Int)) (b := v) (i := 50) z3 (by decide) (by decide) (by decide) (by decide) (by decide) (big_mul bx by_) (by decide) (Rat.le_trans d7 p1) (Rat.le_trans p2 d8) (by omega) (rdn_few _ v) (rup_few _ v)
  have t4 := w06_has_true (e := -((200 : Nat) : Int)) (b := v) (i := 30) z4 (by decide) (by decide) (by decide) (by decide) (by decide) bx (by decide) (by grind) (by grind) (by omega) (rdn_few _ v) (rup_few _ v)
  -- all together
  have g : ∀ i < 3, big ((fun i => if i = 1 then y else x) i) 73 := fun i hi => by
    simp only; split
    · exact by_
    · exact bx
  have b0 : big (0 : Rat) 73 := by
    have := rat_int_big (z := 0) (k := 73) (P_pos 73) (by decide)
    exact this
  have hsum : ∀ i ≤ 3, big (sumQ (fun i => if i = 1 then y else x) i) (73 + 74 * i) := fun i hi => by
    induction i with
    | zero => exact b0
    | succ i ih => exact (big_add (ih (by omega)) (g i (by omega))).mono (by omega)
  have e8 := ratio_Sum_R (n := 3) (j := 73) (k := 221) (by decide) g (fun i hi => (hsum i (by omega)).mono (by omega)) (by decide)
  have e8 : S.ratio_Sum ([R x, R y, R x], ()) = some (R (sumQ (fun i => if i = 1 then y else x) 3), 0, ()) := e8
  have ff : bb 3 (fun i => if i = 1 then (l', h') else (l, h)) 23 := fun i hi => by
    simp only; split
    · exact hl'
    · exact hl
  have e9 := span_Sum_Bx (e := -((200 : Nat) : Int)) (b := v) (n := 3) (by decide) ff (by decide) (by decide) (by decide) (by omega) (by omega)
  have e9 : S.span_Sum ((v : Int), [Sp l h (-((200 : Nat) : Int)), Sp l' h' (-((200 : Nat) : Int)), Sp l h (-((200 : Nat) : Int))], ()) = some (Sp (sumS (fun i => if i = 1 then (l', h') else (l, h)) v 3).1 (sumS (fun i => if i = 1 then (l', h') else (l, h)) v 3).2 (-((200 : Nat) : Int)), 0, ()) := e9
  have z5 := sumS_abs (b := v) ff 3 (by decide)
  have hin : ∀ i ≤ 3, dv (sumS (fun i => if i = 1 then (l', h') else (l, h)) v i).1 (-((200 : Nat) : Int)) ≤ sumQ (fun i => if i = 1 then y else x) i ∧ sumQ (fun i => if i = 1 then y else x) i ≤ dv (sumS (fun i => if i = 1 then (l', h') else (l, h)) v i).2 (-((200 : Nat) : Int)) := fun i hi => by
    induction i with
    | zero => simp only [sumS, sumQ, dv_zero]; exact ⟨Rat.le_refl, Rat.le_refl⟩
    | succ i ih =>
      obtain ⟨i1, i2⟩ := ih (by omega)
      have r1 := d _ _ (rdn_le ((sumS (fun i => if i = 1 then (l', h') else (l, h)) v i).1 + (if i = 1 then (l', h') else (l, h)).1) v)
      have r2 := d _ _ (rup_ge ((sumS (fun i => if i = 1 then (l', h') else (l, h)) v i).2 + (if i = 1 then (l', h') else (l, h)).2) v)
      rw [dv_add] at r1 r2
      simp only [sumS, sumQ]
      by_cases hi1 : i = 1
      · simp only [hi1, if_true] at r1 r2 i1 i2 ⊢; grind
      · simp only [hi1, if_false] at r1 r2 i1 i2 ⊢; grind
  have f5 : few v (sumS (fun i => if i = 1 then (l', h') else (l, h)) v 3).1 ∧ few v (sumS (fun i => if i = 1 then (l', h') else (l, h)) v 3).2 := ⟨rdn_few _ v, rup_few _ v⟩
  have t5 := w06_has_true (e := -((200 : Nat) : Int)) (b := v) (i := 40) z5 (by decide) (by decide) (by decide) (by decide) (by decide) (hsum 3 (by decide)) (by decide) (hin 3 (by decide)).1 (hin 3 (by decide)).2 (by omega) f5.1 f5.2
  rw [show S.w06_at _ = _ from at1, Option.bind_some, show S.w06_at _ = _ from at2, Option.bind_some, show S.span_Add _ = _ from e1, Option.bind_some, show S.span_Sub _ = _ from e2, Option.bind_some, show S.span_Mul _ = _ from e3, Option.bind_some, show S.span_Round _ = _ from e4, Option.bind_some, show S.ratio_Add _ = _ from e5, Option.bind_some, show S.ratio_Sub _ = _ from e6, Option.bind_some, show S.ratio_Mul _ = _ from e7, Option.bind_some, show S.ratio_Sum _ = _ from e8, Option.bind_some, show S.span_Sum _ = _ from e9, Option.bind_some, show S.w06_has _ = _ from t1, Option.bind_some]
  simp only [cond_true]
  rw [show S.w06_has _ = _ from t2, Option.bind_some]
  simp only [cond_true]
  rw [show S.w06_has _ = _ from t3, Option.bind_some]
  simp only [cond_true]
  rw [show S.w06_has _ = _ from t4, Option.bind_some]
  simp only [cond_true]
  rw [show S.w06_has _ = _ from t5, Option.bind_some]
end Go.L

/-! UC -/
namespace Go.L
open Go.PM
set_option exponentiation.threshold 20000
set_option linter.unusedVariables false
set_option linter.unusedSimpArgs false

/-- girdlelaw06.reckon -/
def w06_reckon (kind : Int) (a : ((Bool × (List Int) × Unit) × Int × Unit) × ((Bool × (List Int) × Unit) × Int × Unit) × Unit) (b : ((Bool × (List Int) × Unit) × Int × Unit) × ((Bool × (List Int) × Unit) × Int × Unit) × Unit) (bits : Int) : Option ((((Bool × (List Int) × Unit) × Int × Unit) × ((Bool × (List Int) × Unit) × Int × Unit) × Unit) × Int × Unit) :=
  cond (decide (kind = 0))
    (
      (S.span_Add ((((a.1.1.1, a.1.1.2.1, ()), a.1.2.1, ()), ((a.2.1.1.1, a.2.1.1.2.1, ()), a.2.1.2.1, ()), ()), (((b.1.1.1, b.1.1.2.1, ()), b.1.2.1, ()), ((b.2.1.1.1, b.2.1.1.2.1, ()), b.2.1.2.1, ()), ()), bits, ())).bind fun z1 =>
      some ((((z1.1.1.1.1, z1.1.1.1.2.1, ()), z1.1.1.2.1, ()), ((z1.1.2.1.1.1, z1.1.2.1.1.2.1, ()), z1.1.2.1.2.1, ()), ()), z1.2.1, ()))
    (
      cond (decide (kind = 1))
        (
          (S.span_Sub ((((a.1.1.1, a.1.1.2.1, ()), a.1.2.1, ()), ((a.2.1.1.1, a.2.1.1.2.1, ()), a.2.1.2.1, ()), ()), (((b.1.1.1, b.1.1.2.1, ()), b.1.2.1, ()), ((b.2.1.1.1, b.2.1.1.2.1, ()), b.2.1.2.1, ()), ()), bits, ())).bind fun z2 =>
          some ((((z2.1.1.1.1, z2.1.1.1.2.1, ()), z2.1.1.2.1, ()), ((z2.1.2.1.1.1, z2.1.2.1.1.2.1, ()), z2.1.2.1.2.1, ()), ()), z2.2.1, ()))
        (
          (S.span_Mul ((((a.1.1.1, a.1.1.2.1, ()), a.1.2.1, ()), ((a.2.1.1.1, a.2.1.1.2.1, ()), a.2.1.2.1, ()), ()), (((b.1.1.1, b.1.1.2.1, ()), b.1.2.1, ()), ((b.2.1.1.1, b.2.1.1.2.1, ()), b.2.1.2.1, ()), ()), bits, ())).bind fun z3 =>
          some ((((z3.1.1.1.1, z3.1.1.1.2.1, ()), z3.1.1.2.1, ()), ((z3.1.2.1.1.1, z3.1.2.1.1.2.1, ()), z3.1.2.1.2.1, ()), ()), z3.2.1, ())))

def S.w06_reckon (x : Int × SP × SP × Int × Unit) : Option (SP × Int × Unit) := L.w06_reckon x.1 x.2.1 x.2.2.1 x.2.2.2.1
/-- w06_SpanNests: one round of loop 0. -/
def w06_SpanNests_s0 (κ0 : Int → Bool → (List Int) → Int → Bool → (List Int) → Int → Bool → (List Int) → Int → Bool → (List Int) → Int → Bool → (List Int) → Int → Bool → (List Int) → Int → Int → Option (Bool × Unit)) (bits : Int) (a_0 : Bool) (a_1 : List Int) (a_2 : Int) (a_3 : Bool) (a_4 : List Int) (a_5 : Int) (h_0 : Bool) (h_1 : List Int) (h_2 : Int) (h_3 : Bool) (h_4 : List Int) (h_5 : Int) (p_0 : Bool) (p_1 : List Int) (p_2 : Int) (p_3 : Bool) (p_4 : List Int) (p_5 : Int) (t45 : Int) : Option (Bool × Unit) :=
  cond (decide (t45 < 3))
    (
      (S.w06_reckon (t45, (((p_0, p_1, ()), p_2, ()), ((p_3, p_4, ()), p_5, ()), ()), (((a_0, a_1, ()), a_2, ()), ((a_3, a_4, ()), a_5, ()), ()), bits, ())).bind fun z6 =>
      (S.w06_reckon (t45, (((a_0, a_1, ()), a_2, ()), ((a_3, a_4, ()), a_5, ()), ()), (((a_0, a_1, ()), a_2, ()), ((a_3, a_4, ()), a_5, ()), ()), bits, ())).bind fun z7 =>
      (S.w06_reckon (t45, (((h_0, h_1, ()), h_2, ()), ((h_3, h_4, ()), h_5, ()), ()), (((h_0, h_1, ()), h_2, ()), ((h_3, h_4, ()), h_5, ()), ()), bits, ())).bind fun z8 =>
      cond (!(decide (z6.2.1 = 0))) (some (false, ()))
        (
          cond (!(decide (z7.2.1 = 0))) (some (false, ()))
            (
              cond (!(decide (z8.2.1 = 0))) (some (false, ()))
                (
                  (S.span_Holds ((((z7.1.1.1.1, z7.1.1.1.2.1, ()), z7.1.1.2.1, ()), ((z7.1.2.1.1.1, z7.1.2.1.1.2.1, ()), z7.1.2.1.2.1, ()), ()), (((z6.1.1.1.1, z6.1.1.1.2.1, ()), z6.1.1.2.1, ()), ((z6.1.2.1.1.1, z6.1.2.1.1.2.1, ()), z6.1.2.1.2.1, ()), ()), ())).bind fun z9 =>
                  cond (!z9.1) (some (false, ()))
                    (
                      (S.span_Holds ((((z8.1.1.1.1, z8.1.1.1.2.1, ()), z8.1.1.2.1, ()), ((z8.1.2.1.1.1, z8.1.2.1.1.2.1, ()), z8.1.2.1.2.1, ()), ()), (((z7.1.1.1.1, z7.1.1.1.2.1, ()), z7.1.1.2.1, ()), ((z7.1.2.1.1.1, z7.1.2.1.1.2.1, ()), z7.1.2.1.2.1, ()), ()), ())).bind fun z10 =>
                      cond (!z10.1) (some (false, ()))
                        (
                          κ0 bits a_0 a_1 a_2 a_3 a_4 a_5 h_0 h_1 h_2 h_3 h_4 h_5 p_0 p_1 p_2 p_3 p_4 p_5 (IntKind.i64.wrap (t45 + 1)))))))) (some (true, ()))

def w06_SpanNests_l0 (K : Nat) : Nat → Int → Bool → (List Int) → Int → Bool → (List Int) → Int → Bool → (List Int) → Int → Bool → (List Int) → Int → Bool → (List Int) → Int → Bool → (List Int) → Int → Int → Option (Bool × Unit)
  | 0, _, _, _, _, _, _, _, _, _, _, _, _, _, _, _, _, _, _, _, _ => none
  | n + 1, bits, a_0, a_1, a_2, a_3, a_4, a_5, h_0, h_1, h_2, h_3, h_4, h_5, p_0, p_1, p_2, p_3, p_4, p_5, t45 => w06_SpanNests_s0 (w06_SpanNests_l0 K n) bits a_0 a_1 a_2 a_3 a_4 a_5 h_0 h_1 h_2 h_3 h_4 h_5 p_0 p_1 p_2 p_3 p_4 p_5 t45

/-- girdlelaw06.SpanNests -/
def w06_SpanNests_b (I0 : Int → Bool → (List Int) → Int → Bool → (List Int) → Int → Bool → (List Int) → Int → Bool → (List Int) → Int → Bool → (List Int) → Int → Bool → (List Int) → Int → Int → Option (Bool × Unit)) (a : ((Bool × (List Int) × Unit) × Int × Unit) × ((Bool × (List Int) × Unit) × Int × Unit) × Unit) (b : ((Bool × (List Int) × Unit) × Int × Unit) × ((Bool × (List Int) × Unit) × Int × Unit) × Unit) (bits : Int) : Option (Bool × Unit) :=
  (S.w06_between (())).bind fun z1 =>
  cond (!z1.1) (some (false, ()))
    (
      (S.w06_fit ([(((a.1.1.1, a.1.1.2.1, ()), a.1.2.1, ()), ((a.2.1.1.1, a.2.1.1.2.1, ()), a.2.1.2.1, ()), ()), (((b.1.1.1, b.1.1.2.1, ()), b.1.2.1, ()), ((b.2.1.1.1, b.2.1.1.2.1, ()), b.2.1.2.1, ()), ())], ())).bind fun z2 =>
      cond (!z2.1) (some (true, ()))
        (
          cond (decide (bits < 2)) (some (true, ()))
            (
              cond (decide (300 < bits)) (some (true, ()))
                (
                  (S.span_Hull ((((a.1.1.1, a.1.1.2.1, ()), a.1.2.1, ()), ((a.2.1.1.1, a.2.1.1.2.1, ()), a.2.1.2.1, ()), ()), (((b.1.1.1, b.1.1.2.1, ()), b.1.2.1, ()), ((b.2.1.1.1, b.2.1.1.2.1, ()), b.2.1.2.1, ()), ()), ())).bind fun z3 =>
                  (S.span_Middle ((((a.1.1.1, a.1.1.2.1, ()), a.1.2.1, ()), ((a.2.1.1.1, a.2.1.1.2.1, ()), a.2.1.2.1, ()), ()), ())).bind fun z4 =>
                  cond (!(decide (z4.2.1 = 0))) (some (false, ()))
                    (
                      (S.span_Point (((z4.1.1.1, z4.1.1.2.1, ()), z4.1.2.1, ()), ())).bind fun z5 =>
                      I0 bits a.1.1.1 a.1.1.2.1 a.1.2.1 a.2.1.1.1 a.2.1.1.2.1 a.2.1.2.1 z3.1.1.1.1 z3.1.1.1.2.1 z3.1.1.2.1 z3.1.2.1.1.1 z3.1.2.1.1.2.1 z3.1.2.1.2.1 z5.1.1.1.1 z5.1.1.1.2.1 z5.1.1.2.1 z5.1.2.1.1.1 z5.1.2.1.1.2.1 z5.1.2.1.2.1 0)))))

def w06_SpanNests (K : Nat) (a : ((Bool × (List Int) × Unit) × Int × Unit) × ((Bool × (List Int) × Unit) × Int × Unit) × Unit) (b : ((Bool × (List Int) × Unit) × Int × Unit) × ((Bool × (List Int) × Unit) × Int × Unit) × Unit) (bits : Int) : Option (Bool × Unit) := w06_SpanNests_b (w06_SpanNests_l0 K K) a b bits

def S.w06_SpanNests (x : SP × SP × Int × Unit) : Option (Bool × Unit) := L.w06_SpanNests 100 x.1 x.2.1 x.2.2.1
/-- w06_SpanTight: one round of loop 1. -/
def w06_SpanTight_s1 (κ0 : Bool → (List Int) → Int → Bool → (List Int) → Int → Bool → (List Int) → Int → Bool → (List Int) → Int → Bool → Bool → (List ((Bool × (List Int) × Unit) × Int × Unit)) → Int → Int → Option (Bool × Unit)) (κ1 : Bool → (List Int) → Int → Bool → (List Int) → Int → Bool → (List Int) → Int → Bool → (List Int) → Int → Bool → Bool → Bool → (List Int) → Int → (List ((Bool × (List Int) × Unit) × Int × Unit)) → Int → Int → (List ((Bool × (List Int) × Unit) × Int × Unit)) → Int → Int → Option (Bool × Unit)) (b_0 : Bool) (b_1 : List Int) (b_2 : Int) (b_3 : Bool) (b_4 : List Int) (b_5 : Int) (p_0 : Bool) (p_1 : List Int) (p_2 : Int) (p_3 : Bool) (p_4 : List Int) (p_5 : Int) (low : Bool) (high : Bool) (x_0 : Bool) (x_1 : List Int) (x_2 : Int) (t124 : List ((Bool × (List Int) × Unit) × Int × Unit)) (t125 : Int) (t126 : Int) (t134 : List ((Bool × (List Int) × Unit) × Int × Unit)) (t135 : Int) (t136 : Int) : Option (Bool × Unit) :=
  cond (decide (t136 < t135))
    (
      cond (decide (0 ≤ t136))
        (
          cond (decide (t136 < (t134.length : Int)))
            (
              let z15 := t134.getD t136.toNat ((false, ([], ())), (0, ()))
              (S.dyad_Mul (((x_0, x_1, ()), x_2, ()), ((z15.1.1, z15.1.2.1, ()), z15.2.1, ()), ())).bind fun z16 =>
              (S.span_Has ((((p_0, p_1, ()), p_2, ()), ((p_3, p_4, ()), p_5, ()), ()), ((z16.1.1.1, z16.1.1.2.1, ()), z16.1.2.1, ()), ())).bind fun z17 =>
              cond (!z17.1) (some (false, ()))
                (
                  cond (low)
                    (
                      cond (high)
                        (
                          κ1 b_0 b_1 b_2 b_3 b_4 b_5 p_0 p_1 p_2 p_3 p_4 p_5 true true x_0 x_1 x_2 t124 t125 t126 t134 t135 (IntKind.i64.wrap (t136 + 1)))
                        (
                          (S.dyad_Compare (((z16.1.1.1, z16.1.1.2.1, ()), z16.1.2.1, ()), ((p_3, p_4, ()), p_5, ()), ())).bind fun z19 =>
                          κ1 b_0 b_1 b_2 b_3 b_4 b_5 p_0 p_1 p_2 p_3 p_4 p_5 true (decide (z19.1 = 0)) x_0 x_1 x_2 t124 t125 t126 t134 t135 (IntKind.i64.wrap (t136 + 1))))
                    (
                      (S.dyad_Compare (((z16.1.1.1, z16.1.1.2.1, ()), z16.1.2.1, ()), ((p_0, p_1, ()), p_2, ()), ())).bind fun z21 =>
                      cond (high)
                        (
                          κ1 b_0 b_1 b_2 b_3 b_4 b_5 p_0 p_1 p_2 p_3 p_4 p_5 (decide (z21.1 = 0)) true x_0 x_1 x_2 t124 t125 t126 t134 t135 (IntKind.i64.wrap (t136 + 1)))
                        (
                          (S.dyad_Compare (((z16.1.1.1, z16.1.1.2.1, ()), z16.1.2.1, ()), ((p_3, p_4, ()), p_5, ()), ())).bind fun z23 =>
                          κ1 b_0 b_1 b_2 b_3 b_4 b_5 p_0 p_1 p_2 p_3 p_4 p_5 (decide (z21.1 = 0)) (decide (z23.1 = 0)) x_0 x_1 x_2 t124 t125 t126 t134 t135 (IntKind.i64.wrap (t136 + 1)))))) none) none)
    (
      κ0 b_0 b_1 b_2 b_3 b_4 b_5 p_0 p_1 p_2 p_3 p_4 p_5 low high t124 t125 (IntKind.i64.wrap (t126 + 1)))

def w06_SpanTight_l1 (K : Nat) (κ0 : Bool → (List Int) → Int → Bool → (List Int) → Int → Bool → (List Int) → Int → Bool → (List Int) → Int → Bool → Bool → (List ((Bool × (List Int) × Unit) × Int × Unit)) → Int → Int → Option (Bool × Unit)) : Nat → Bool → (List Int) → Int → Bool → (List Int) → Int → Bool → (List Int) → Int → Bool → (List Int) → Int → Bool → Bool → Bool → (List Int) → Int → (List ((Bool × (List Int) × Unit) × Int × Unit)) → Int → Int → (List ((Bool × (List Int) × Unit) × Int × Unit)) → Int → Int → Option (Bool × Unit)
  | 0, _, _, _, _, _, _, _, _, _, _, _, _, _, _, _, _, _, _, _, _, _, _, _ => none
  | n + 1, b_0, b_1, b_2, b_3, b_4, b_5, p_0, p_1, p_2, p_3, p_4, p_5, low, high, x_0, x_1, x_2, t124, t125, t126, t134, t135, t136 => w06_SpanTight_s1 κ0 (w06_SpanTight_l1 K κ0 n) b_0 b_1 b_2 b_3 b_4 b_5 p_0 p_1 p_2 p_3 p_4 p_5 low high x_0 x_1 x_2 t124 t125 t126 t134 t135 t136

/-- w06_SpanTight: one round of loop 0. -/
def w06_SpanTight_s0 (I1 : Bool → (List Int) → Int → Bool → (List Int) → Int → Bool → (List Int) → Int → Bool → (List Int) → Int → Bool → Bool → Bool → (List Int) → Int → (List ((Bool × (List Int) × Unit) × Int × Unit)) → Int → Int → (List ((Bool × (List Int) × Unit) × Int × Unit)) → Int → Int → Option (Bool × Unit)) (κ0 : Bool → (List Int) → Int → Bool → (List Int) → Int → Bool → (List Int) → Int → Bool → (List Int) → Int → Bool → Bool → (List ((Bool × (List Int) × Unit) × Int × Unit)) → Int → Int → Option (Bool × Unit)) (b_0 : Bool) (b_1 : List Int) (b_2 : Int) (b_3 : Bool) (b_4 : List Int) (b_5 : Int) (p_0 : Bool) (p_1 : List Int) (p_2 : Int) (p_3 : Bool) (p_4 : List Int) (p_5 : Int) (low : Bool) (high : Bool) (t124 : List ((Bool × (List Int) × Unit) × Int × Unit)) (t125 : Int) (t126 : Int) : Option (Bool × Unit) :=
  cond (decide (t126 < t125))
    (
      cond (decide (0 ≤ t126))
        (
          cond (decide (t126 < (t124.length : Int)))
            (
              let z14 := t124.getD t126.toNat ((false, ([], ())), (0, ()))
              I1 b_0 b_1 b_2 b_3 b_4 b_5 p_0 p_1 p_2 p_3 p_4 p_5 low high z14.1.1 z14.1.2.1 z14.2.1 t124 t125 t126 ([((b_0, b_1, ()), b_2, ()), ((b_3, b_4, ()), b_5, ())]) (([((b_0, b_1, ()), b_2, ()), ((b_3, b_4, ()), b_5, ())]).length : Int) 0) none) none)
    (
      cond (low) (some (high, ())) (some (false, ())))

def w06_SpanTight_l0 (K : Nat) : Nat → Bool → (List Int) → Int → Bool → (List Int) → Int → Bool → (List Int) → Int → Bool → (List Int) → Int → Bool → Bool → (List ((Bool × (List Int) × Unit) × Int × Unit)) → Int → Int → Option (Bool × Unit)
  | 0, _, _, _, _, _, _, _, _, _, _, _, _, _, _, _, _, _ => none
  | n + 1, b_0, b_1, b_2, b_3, b_4, b_5, p_0, p_1, p_2, p_3, p_4, p_5, low, high, t124, t125, t126 => w06_SpanTight_s0 (w06_SpanTight_l1 K (w06_SpanTight_l0 K n) K) (w06_SpanTight_l0 K n) b_0 b_1 b_2 b_3 b_4 b_5 p_0 p_1 p_2 p_3 p_4 p_5 low high t124 t125 t126

/-- girdlelaw06.SpanTight -/
def w06_SpanTight_b (I0 : Bool → (List Int) → Int → Bool → (List Int) → Int → Bool → (List Int) → Int → Bool → (List Int) → Int → Bool → Bool → (List ((Bool × (List Int) × Unit) × Int × Unit)) → Int → Int → Option (Bool × Unit)) (a : ((Bool × (List Int) × Unit) × Int × Unit) × ((Bool × (List Int) × Unit) × Int × Unit) × Unit) (b : ((Bool × (List Int) × Unit) × Int × Unit) × ((Bool × (List Int) × Unit) × Int × Unit) × Unit) : Option (Bool × Unit) :=
  (S.w06_between (())).bind fun z1 =>
  cond (!z1.1) (some (false, ()))
    (
      (S.w06_fit ([(((a.1.1.1, a.1.1.2.1, ()), a.1.2.1, ()), ((a.2.1.1.1, a.2.1.1.2.1, ()), a.2.1.2.1, ()), ()), (((b.1.1.1, b.1.1.2.1, ()), b.1.2.1, ()), ((b.2.1.1.1, b.2.1.1.2.1, ()), b.2.1.2.1, ()), ())], ())).bind fun z2 =>
      cond (!z2.1) (some (true, ()))
        (
          (S.span_Add ((((a.1.1.1, a.1.1.2.1, ()), a.1.2.1, ()), ((a.2.1.1.1, a.2.1.1.2.1, ()), a.2.1.2.1, ()), ()), (((b.1.1.1, b.1.1.2.1, ()), b.1.2.1, ()), ((b.2.1.1.1, b.2.1.1.2.1, ()), b.2.1.2.1, ()), ()), 4000, ())).bind fun z3 =>
          (S.span_Sub ((((a.1.1.1, a.1.1.2.1, ()), a.1.2.1, ()), ((a.2.1.1.1, a.2.1.1.2.1, ()), a.2.1.2.1, ()), ()), (((b.1.1.1, b.1.1.2.1, ()), b.1.2.1, ()), ((b.2.1.1.1, b.2.1.1.2.1, ()), b.2.1.2.1, ()), ()), 4000, ())).bind fun z4 =>
          (S.span_Mul ((((a.1.1.1, a.1.1.2.1, ()), a.1.2.1, ()), ((a.2.1.1.1, a.2.1.1.2.1, ()), a.2.1.2.1, ()), ()), (((b.1.1.1, b.1.1.2.1, ()), b.1.2.1, ()), ((b.2.1.1.1, b.2.1.1.2.1, ()), b.2.1.2.1, ()), ()), 4000, ())).bind fun z5 =>
          cond (!(decide (z3.2.1 = 0))) (some (false, ()))
            (
              cond (!(decide (z4.2.1 = 0))) (some (false, ()))
                (
                  cond (!(decide (z5.2.1 = 0))) (some (false, ()))
                    (
                      (S.dyad_Add (((a.1.1.1, a.1.1.2.1, ()), a.1.2.1, ()), ((b.1.1.1, b.1.1.2.1, ()), b.1.2.1, ()), ())).bind fun z6 =>
                      (S.dyad_Add (((a.2.1.1.1, a.2.1.1.2.1, ()), a.2.1.2.1, ()), ((b.2.1.1.1, b.2.1.1.2.1, ()), b.2.1.2.1, ()), ())).bind fun z7 =>
                      (S.dyad_Sub (((a.1.1.1, a.1.1.2.1, ()), a.1.2.1, ()), ((b.2.1.1.1, b.2.1.1.2.1, ()), b.2.1.2.1, ()), ())).bind fun z8 =>
                      (S.dyad_Sub (((a.2.1.1.1, a.2.1.1.2.1, ()), a.2.1.2.1, ()), ((b.1.1.1, b.1.1.2.1, ()), b.1.2.1, ()), ())).bind fun z9 =>
                      (S.dyad_Compare (((z3.1.1.1.1, z3.1.1.1.2.1, ()), z3.1.1.2.1, ()), ((z6.1.1.1, z6.1.1.2.1, ()), z6.1.2.1, ()), ())).bind fun z10 =>
                      cond (!(decide (z10.1 = 0))) (some (false, ()))
                        (
                          (S.dyad_Compare (((z3.1.2.1.1.1, z3.1.2.1.1.2.1, ()), z3.1.2.1.2.1, ()), ((z7.1.1.1, z7.1.1.2.1, ()), z7.1.2.1, ()), ())).bind fun z11 =>
                          cond (!(decide (z11.1 = 0))) (some (false, ()))
                            (
                              (S.dyad_Compare (((z4.1.1.1.1, z4.1.1.1.2.1, ()), z4.1.1.2.1, ()), ((z8.1.1.1, z8.1.1.2.1, ()), z8.1.2.1, ()), ())).bind fun z12 =>
                              cond (!(decide (z12.1 = 0))) (some (false, ()))
                                (
                                  (S.dyad_Compare (((z4.1.2.1.1.1, z4.1.2.1.1.2.1, ()), z4.1.2.1.2.1, ()), ((z9.1.1.1, z9.1.1.2.1, ()), z9.1.2.1, ()), ())).bind fun z13 =>
                                  cond (!(decide (z13.1 = 0))) (some (false, ()))
                                    (
                                      I0 b.1.1.1 b.1.1.2.1 b.1.2.1 b.2.1.1.1 b.2.1.1.2.1 b.2.1.2.1 z5.1.1.1.1 z5.1.1.1.2.1 z5.1.1.2.1 z5.1.2.1.1.1 z5.1.2.1.1.2.1 z5.1.2.1.2.1 false false ([((a.1.1.1, a.1.1.2.1, ()), a.1.2.1, ()), ((a.2.1.1.1, a.2.1.1.2.1, ()), a.2.1.2.1, ())]) (([((a.1.1.1, a.1.1.2.1, ()), a.1.2.1, ()), ((a.2.1.1.1, a.2.1.1.2.1, ()), a.2.1.2.1, ())]).length : Int) 0)))))))))

def w06_SpanTight (K : Nat) (a : ((Bool × (List Int) × Unit) × Int × Unit) × ((Bool × (List Int) × Unit) × Int × Unit) × Unit) (b : ((Bool × (List Int) × Unit) × Int × Unit) × ((Bool × (List Int) × Unit) × Int × Unit) × Unit) : Option (Bool × Unit) := w06_SpanTight_b (w06_SpanTight_l0 K K) a b

def S.w06_SpanTight (x : SP × SP × Unit) : Option (Bool × Unit) := L.w06_SpanTight 100 x.1 x.2.1
/-- girdlelaw06.SpanSets -/
def w06_SpanSets (a : ((Bool × (List Int) × Unit) × Int × Unit) × ((Bool × (List Int) × Unit) × Int × Unit) × Unit) (b : ((Bool × (List Int) × Unit) × Int × Unit) × ((Bool × (List Int) × Unit) × Int × Unit) × Unit) (d : (Bool × (List Int) × Unit) × Int × Unit) : Option (Bool × Unit) :=
  (S.w06_between (())).bind fun z1 =>
  cond (!z1.1) (some (false, ()))
    (
      (S.span_Point (((d.1.1, d.1.2.1, ()), d.2.1, ()), ())).bind fun z2 =>
      (S.w06_fit ([(((a.1.1.1, a.1.1.2.1, ()), a.1.2.1, ()), ((a.2.1.1.1, a.2.1.1.2.1, ()), a.2.1.2.1, ()), ()), (((b.1.1.1, b.1.1.2.1, ()), b.1.2.1, ()), ((b.2.1.1.1, b.2.1.1.2.1, ()), b.2.1.2.1, ()), ()), (((z2.1.1.1.1, z2.1.1.1.2.1, ()), z2.1.1.2.1, ()), ((z2.1.2.1.1.1, z2.1.2.1.1.2.1, ()), z2.1.2.1.2.1, ()), ())], ())).bind fun z3 =>
      cond (!z3.1) (some (true, ()))
        (
          (S.span_Hull ((((a.1.1.1, a.1.1.2.1, ()), a.1.2.1, ()), ((a.2.1.1.1, a.2.1.1.2.1, ()), a.2.1.2.1, ()), ()), (((b.1.1.1, b.1.1.2.1, ()), b.1.2.1, ()), ((b.2.1.1.1, b.2.1.1.2.1, ()), b.2.1.2.1, ()), ()), ())).bind fun z4 =>
          (S.span_Meet ((((a.1.1.1, a.1.1.2.1, ()), a.1.2.1, ()), ((a.2.1.1.1, a.2.1.1.2.1, ()), a.2.1.2.1, ()), ()), (((b.1.1.1, b.1.1.2.1, ()), b.1.2.1, ()), ((b.2.1.1.1, b.2.1.1.2.1, ()), b.2.1.2.1, ()), ()), ())).bind fun z5 =>
          (S.span_Holds ((((z4.1.1.1.1, z4.1.1.1.2.1, ()), z4.1.1.2.1, ()), ((z4.1.2.1.1.1, z4.1.2.1.1.2.1, ()), z4.1.2.1.2.1, ()), ()), (((a.1.1.1, a.1.1.2.1, ()), a.1.2.1, ()), ((a.2.1.1.1, a.2.1.1.2.1, ()), a.2.1.2.1, ()), ()), ())).bind fun z6 =>
          cond (!z6.1) (some (false, ()))
            (
              (S.span_Holds ((((z4.1.1.1.1, z4.1.1.1.2.1, ()), z4.1.1.2.1, ()), ((z4.1.2.1.1.1, z4.1.2.1.1.2.1, ()), z4.1.2.1.2.1, ()), ()), (((b.1.1.1, b.1.1.2.1, ()), b.1.2.1, ()), ((b.2.1.1.1, b.2.1.1.2.1, ()), b.2.1.2.1, ()), ()), ())).bind fun z7 =>
              cond (!z7.1) (some (false, ()))
                (
                  (S.span_Neg ((((a.1.1.1, a.1.1.2.1, ()), a.1.2.1, ()), ((a.2.1.1.1, a.2.1.1.2.1, ()), a.2.1.2.1, ()), ()), ())).bind fun z8 =>
                  (S.dyad_Neg (((d.1.1, d.1.2.1, ()), d.2.1, ()), ())).bind fun z9 =>
                  (S.span_Has ((((z8.1.1.1.1, z8.1.1.1.2.1, ()), z8.1.1.2.1, ()), ((z8.1.2.1.1.1, z8.1.2.1.1.2.1, ()), z8.1.2.1.2.1, ()), ()), ((z9.1.1.1, z9.1.1.2.1, ()), z9.1.2.1, ()), ())).bind fun z10 =>
                  (S.span_Has ((((a.1.1.1, a.1.1.2.1, ()), a.1.2.1, ()), ((a.2.1.1.1, a.2.1.1.2.1, ()), a.2.1.2.1, ()), ()), ((d.1.1, d.1.2.1, ()), d.2.1, ()), ())).bind fun z11 =>
                  cond (!(z10.1 == z11.1)) (some (false, ()))
                    (
                      (S.span_Has ((((a.1.1.1, a.1.1.2.1, ()), a.1.2.1, ()), ((a.2.1.1.1, a.2.1.1.2.1, ()), a.2.1.2.1, ()), ()), ((d.1.1, d.1.2.1, ()), d.2.1, ()), ())).bind fun z12 =>
                      cond (z12.1)
                        (
                          (S.span_Has ((((z4.1.1.1.1, z4.1.1.1.2.1, ()), z4.1.1.2.1, ()), ((z4.1.2.1.1.1, z4.1.2.1.1.2.1, ()), z4.1.2.1.2.1, ()), ()), ((d.1.1, d.1.2.1, ()), d.2.1, ()), ())).bind fun z13 =>
                          cond (!z13.1) (some (false, ()))
                            (
                              (S.span_Has ((((a.1.1.1, a.1.1.2.1, ()), a.1.2.1, ()), ((a.2.1.1.1, a.2.1.1.2.1, ()), a.2.1.2.1, ()), ()), ((d.1.1, d.1.2.1, ()), d.2.1, ()), ())).bind fun z14 =>
                              cond (z14.1)
                                (
                                  (S.span_Has ((((b.1.1.1, b.1.1.2.1, ()), b.1.2.1, ()), ((b.2.1.1.1, b.2.1.1.2.1, ()), b.2.1.2.1, ()), ()), ((d.1.1, d.1.2.1, ()), d.2.1, ()), ())).bind fun z15 =>
                                  cond (!(decide (z5.2.1 = 0)))
                                    (
                                      cond (decide (z5.2.1 = 4))
                                        (
                                          cond (!z15.1)
                                            (
                                              (S.dyad_Less (((a.2.1.1.1, a.2.1.1.2.1, ()), a.2.1.2.1, ()), ((b.1.1.1, b.1.1.2.1, ()), b.1.2.1, ()), ())).bind fun z16 =>
                                              cond (z16.1) (some (true, ()))
                                                (
                                                  (S.dyad_Less (((b.2.1.1.1, b.2.1.1.2.1, ()), b.2.1.2.1, ()), ((a.1.1.1, a.1.1.2.1, ()), a.1.2.1, ()), ())).bind fun z17 =>
                                                  some (z17.1, ()))) (some (false, ()))) (some (false, ())))
                                    (
                                      (S.span_Has ((((z5.1.1.1.1, z5.1.1.1.2.1, ()), z5.1.1.2.1, ()), ((z5.1.2.1.1.1, z5.1.2.1.1.2.1, ()), z5.1.2.1.2.1, ()), ()), ((d.1.1, d.1.2.1, ()), d.2.1, ()), ())).bind fun z18 =>
                                      cond ((z18.1 == z15.1))
                                        (
                                          (S.span_Holds ((((a.1.1.1, a.1.1.2.1, ()), a.1.2.1, ()), ((a.2.1.1.1, a.2.1.1.2.1, ()), a.2.1.2.1, ()), ()), (((z5.1.1.1.1, z5.1.1.1.2.1, ()), z5.1.1.2.1, ()), ((z5.1.2.1.1.1, z5.1.2.1.1.2.1, ()), z5.1.2.1.2.1, ()), ()), ())).bind fun z19 =>
                                          cond (z19.1)
                                            (
                                              (S.span_Holds ((((b.1.1.1, b.1.1.2.1, ()), b.1.2.1, ()), ((b.2.1.1.1, b.2.1.1.2.1, ()), b.2.1.2.1, ()), ()), (((z5.1.1.1.1, z5.1.1.1.2.1, ()), z5.1.1.2.1, ()), ((z5.1.2.1.1.1, z5.1.2.1.1.2.1, ()), z5.1.2.1.2.1, ()), ()), ())).bind fun z20 =>
                                              some (z20.1, ())) (some (false, ()))) (some (false, ()))))
                                (
                                  cond (!(decide (z5.2.1 = 0)))
                                    (
                                      cond (decide (z5.2.1 = 4))
                                        (
                                          (S.dyad_Less (((a.2.1.1.1, a.2.1.1.2.1, ()), a.2.1.2.1, ()), ((b.1.1.1, b.1.1.2.1, ()), b.1.2.1, ()), ())).bind fun z21 =>
                                          cond (z21.1) (some (true, ()))
                                            (
                                              (S.dyad_Less (((b.2.1.1.1, b.2.1.1.2.1, ()), b.2.1.2.1, ()), ((a.1.1.1, a.1.1.2.1, ()), a.1.2.1, ()), ())).bind fun z22 =>
                                              some (z22.1, ()))) (some (false, ())))
                                    (
                                      (S.span_Has ((((z5.1.1.1.1, z5.1.1.1.2.1, ()), z5.1.1.2.1, ()), ((z5.1.2.1.1.1, z5.1.2.1.1.2.1, ()), z5.1.2.1.2.1, ()), ()), ((d.1.1, d.1.2.1, ()), d.2.1, ()), ())).bind fun z23 =>
                                      cond ((z23.1 == false))
                                        (
                                          (S.span_Holds ((((a.1.1.1, a.1.1.2.1, ()), a.1.2.1, ()), ((a.2.1.1.1, a.2.1.1.2.1, ()), a.2.1.2.1, ()), ()), (((z5.1.1.1.1, z5.1.1.1.2.1, ()), z5.1.1.2.1, ()), ((z5.1.2.1.1.1, z5.1.2.1.1.2.1, ()), z5.1.2.1.2.1, ()), ()), ())).bind fun z24 =>
                                          cond (z24.1)
                                            (
                                              (S.span_Holds ((((b.1.1.1, b.1.1.2.1, ()), b.1.2.1, ()), ((b.2.1.1.1, b.2.1.1.2.1, ()), b.2.1.2.1, ()), ()), (((z5.1.1.1.1, z5.1.1.1.2.1, ()), z5.1.1.2.1, ()), ((z5.1.2.1.1.1, z5.1.2.1.1.2.1, ()), z5.1.2.1.2.1, ()), ()), ())).bind fun z25 =>
                                              some (z25.1, ())) (some (false, ()))) (some (false, ()))))))
                        (
                          (S.span_Has ((((b.1.1.1, b.1.1.2.1, ()), b.1.2.1, ()), ((b.2.1.1.1, b.2.1.1.2.1, ()), b.2.1.2.1, ()), ()), ((d.1.1, d.1.2.1, ()), d.2.1, ()), ())).bind fun z26 =>
                          cond (z26.1)
                            (
                              (S.span_Has ((((z4.1.1.1.1, z4.1.1.1.2.1, ()), z4.1.1.2.1, ()), ((z4.1.2.1.1.1, z4.1.2.1.1.2.1, ()), z4.1.2.1.2.1, ()), ()), ((d.1.1, d.1.2.1, ()), d.2.1, ()), ())).bind fun z27 =>
                              cond (!z27.1) (some (false, ()))
                                (
                                  (S.span_Has ((((a.1.1.1, a.1.1.2.1, ()), a.1.2.1, ()), ((a.2.1.1.1, a.2.1.1.2.1, ()), a.2.1.2.1, ()), ()), ((d.1.1, d.1.2.1, ()), d.2.1, ()), ())).bind fun z28 =>
                                  cond (z28.1)
                                    (
                                      (S.span_Has ((((b.1.1.1, b.1.1.2.1, ()), b.1.2.1, ()), ((b.2.1.1.1, b.2.1.1.2.1, ()), b.2.1.2.1, ()), ()), ((d.1.1, d.1.2.1, ()), d.2.1, ()), ())).bind fun z29 =>
                                      cond (!(decide (z5.2.1 = 0)))
                                        (
                                          cond (decide (z5.2.1 = 4))
                                            (
                                              cond (!z29.1)
                                                (
                                                  (S.dyad_Less (((a.2.1.1.1, a.2.1.1.2.1, ()), a.2.1.2.1, ()), ((b.1.1.1, b.1.1.2.1, ()), b.1.2.1, ()), ())).bind fun z30 =>
                                                  cond (z30.1) (some (true, ()))
                                                    (
                                                      (S.dyad_Less (((b.2.1.1.1, b.2.1.1.2.1, ()), b.2.1.2.1, ()), ((a.1.1.1, a.1.1.2.1, ()), a.1.2.1, ()), ())).bind fun z31 =>
                                                      some (z31.1, ()))) (some (false, ()))) (some (false, ())))
                                        (
                                          (S.span_Has ((((z5.1.1.1.1, z5.1.1.1.2.1, ()), z5.1.1.2.1, ()), ((z5.1.2.1.1.1, z5.1.2.1.1.2.1, ()), z5.1.2.1.2.1, ()), ()), ((d.1.1, d.1.2.1, ()), d.2.1, ()), ())).bind fun z32 =>
                                          cond ((z32.1 == z29.1))
                                            (
                                              (S.span_Holds ((((a.1.1.1, a.1.1.2.1, ()), a.1.2.1, ()), ((a.2.1.1.1, a.2.1.1.2.1, ()), a.2.1.2.1, ()), ()), (((z5.1.1.1.1, z5.1.1.1.2.1, ()), z5.1.1.2.1, ()), ((z5.1.2.1.1.1, z5.1.2.1.1.2.1, ()), z5.1.2.1.2.1, ()), ()), ())).bind fun z33 =>
                                              cond (z33.1)
                                                (
                                                  (S.span_Holds ((((b.1.1.1, b.1.1.2.1, ()), b.1.2.1, ()), ((b.2.1.1.1, b.2.1.1.2.1, ()), b.2.1.2.1, ()), ()), (((z5.1.1.1.1, z5.1.1.1.2.1, ()), z5.1.1.2.1, ()), ((z5.1.2.1.1.1, z5.1.2.1.1.2.1, ()), z5.1.2.1.2.1, ()), ()), ())).bind fun z34 =>
                                                  some (z34.1, ())) (some (false, ()))) (some (false, ()))))
                                    (
                                      cond (!(decide (z5.2.1 = 0)))
                                        (
                                          cond (decide (z5.2.1 = 4))
                                            (
                                              (S.dyad_Less (((a.2.1.1.1, a.2.1.1.2.1, ()), a.2.1.2.1, ()), ((b.1.1.1, b.1.1.2.1, ()), b.1.2.1, ()), ())).bind fun z35 =>
                                              cond (z35.1) (some (true, ()))
                                                (
                                                  (S.dyad_Less (((b.2.1.1.1, b.2.1.1.2.1, ()), b.2.1.2.1, ()), ((a.1.1.1, a.1.1.2.1, ()), a.1.2.1, ()), ())).bind fun z36 =>
                                                  some (z36.1, ()))) (some (false, ())))
                                        (
                                          (S.span_Has ((((z5.1.1.1.1, z5.1.1.1.2.1, ()), z5.1.1.2.1, ()), ((z5.1.2.1.1.1, z5.1.2.1.1.2.1, ()), z5.1.2.1.2.1, ()), ()), ((d.1.1, d.1.2.1, ()), d.2.1, ()), ())).bind fun z37 =>
                                          cond ((z37.1 == false))
                                            (
                                              (S.span_Holds ((((a.1.1.1, a.1.1.2.1, ()), a.1.2.1, ()), ((a.2.1.1.1, a.2.1.1.2.1, ()), a.2.1.2.1, ()), ()), (((z5.1.1.1.1, z5.1.1.1.2.1, ()), z5.1.1.2.1, ()), ((z5.1.2.1.1.1, z5.1.2.1.1.2.1, ()), z5.1.2.1.2.1, ()), ()), ())).bind fun z38 =>
                                              cond (z38.1)
                                                (
                                                  (S.span_Holds ((((b.1.1.1, b.1.1.2.1, ()), b.1.2.1, ()), ((b.2.1.1.1, b.2.1.1.2.1, ()), b.2.1.2.1, ()), ()), (((z5.1.1.1.1, z5.1.1.1.2.1, ()), z5.1.1.2.1, ()), ((z5.1.2.1.1.1, z5.1.2.1.1.2.1, ()), z5.1.2.1.2.1, ()), ()), ())).bind fun z39 =>
                                                  some (z39.1, ())) (some (false, ()))) (some (false, ()))))))
                            (
                              (S.span_Has ((((a.1.1.1, a.1.1.2.1, ()), a.1.2.1, ()), ((a.2.1.1.1, a.2.1.1.2.1, ()), a.2.1.2.1, ()), ()), ((d.1.1, d.1.2.1, ()), d.2.1, ()), ())).bind fun z40 =>
                              cond (z40.1)
                                (
                                  (S.span_Has ((((b.1.1.1, b.1.1.2.1, ()), b.1.2.1, ()), ((b.2.1.1.1, b.2.1.1.2.1, ()), b.2.1.2.1, ()), ()), ((d.1.1, d.1.2.1, ()), d.2.1, ()), ())).bind fun z41 =>
                                  cond (!(decide (z5.2.1 = 0)))
                                    (
                                      cond (decide (z5.2.1 = 4))
                                        (
                                          cond (!z41.1)
                                            (
                                              (S.dyad_Less (((a.2.1.1.1, a.2.1.1.2.1, ()), a.2.1.2.1, ()), ((b.1.1.1, b.1.1.2.1, ()), b.1.2.1, ()), ())).bind fun z42 =>
                                              cond (z42.1) (some (true, ()))
                                                (
                                                  (S.dyad_Less (((b.2.1.1.1, b.2.1.1.2.1, ()), b.2.1.2.1, ()), ((a.1.1.1, a.1.1.2.1, ()), a.1.2.1, ()), ())).bind fun z43 =>
                                                  some (z43.1, ()))) (some (false, ()))) (some (false, ())))
                                    (
                                      (S.span_Has ((((z5.1.1.1.1, z5.1.1.1.2.1, ()), z5.1.1.2.1, ()), ((z5.1.2.1.1.1, z5.1.2.1.1.2.1, ()), z5.1.2.1.2.1, ()), ()), ((d.1.1, d.1.2.1, ()), d.2.1, ()), ())).bind fun z44 =>
                                      cond ((z44.1 == z41.1))
                                        (
                                          (S.span_Holds ((((a.1.1.1, a.1.1.2.1, ()), a.1.2.1, ()), ((a.2.1.1.1, a.2.1.1.2.1, ()), a.2.1.2.1, ()), ()), (((z5.1.1.1.1, z5.1.1.1.2.1, ()), z5.1.1.2.1, ()), ((z5.1.2.1.1.1, z5.1.2.1.1.2.1, ()), z5.1.2.1.2.1, ()), ()), ())).bind fun z45 =>
                                          cond (z45.1)
                                            (
                                              (S.span_Holds ((((b.1.1.1, b.1.1.2.1, ()), b.1.2.1, ()), ((b.2.1.1.1, b.2.1.1.2.1, ()), b.2.1.2.1, ()), ()), (((z5.1.1.1.1, z5.1.1.1.2.1, ()), z5.1.1.2.1, ()), ((z5.1.2.1.1.1, z5.1.2.1.1.2.1, ()), z5.1.2.1.2.1, ()), ()), ())).bind fun z46 =>
                                              some (z46.1, ())) (some (false, ()))) (some (false, ()))))
                                (
                                  cond (!(decide (z5.2.1 = 0)))
                                    (
                                      cond (decide (z5.2.1 = 4))
                                        (
                                          (S.dyad_Less (((a.2.1.1.1, a.2.1.1.2.1, ()), a.2.1.2.1, ()), ((b.1.1.1, b.1.1.2.1, ()), b.1.2.1, ()), ())).bind fun z47 =>
                                          cond (z47.1) (some (true, ()))
                                            (
                                              (S.dyad_Less (((b.2.1.1.1, b.2.1.1.2.1, ()), b.2.1.2.1, ()), ((a.1.1.1, a.1.1.2.1, ()), a.1.2.1, ()), ())).bind fun z48 =>
                                              some (z48.1, ()))) (some (false, ())))
                                    (
                                      (S.span_Has ((((z5.1.1.1.1, z5.1.1.1.2.1, ()), z5.1.1.2.1, ()), ((z5.1.2.1.1.1, z5.1.2.1.1.2.1, ()), z5.1.2.1.2.1, ()), ()), ((d.1.1, d.1.2.1, ()), d.2.1, ()), ())).bind fun z49 =>
                                      cond ((z49.1 == false))
                                        (
                                          (S.span_Holds ((((a.1.1.1, a.1.1.2.1, ()), a.1.2.1, ()), ((a.2.1.1.1, a.2.1.1.2.1, ()), a.2.1.2.1, ()), ()), (((z5.1.1.1.1, z5.1.1.1.2.1, ()), z5.1.1.2.1, ()), ((z5.1.2.1.1.1, z5.1.2.1.1.2.1, ()), z5.1.2.1.2.1, ()), ()), ())).bind fun z50 =>
                                          cond (z50.1)
                                            (
                                              (S.span_Holds ((((b.1.1.1, b.1.1.2.1, ()), b.1.2.1, ()), ((b.2.1.1.1, b.2.1.1.2.1, ()), b.2.1.2.1, ()), ()), (((z5.1.1.1.1, z5.1.1.1.2.1, ()), z5.1.1.2.1, ()), ((z5.1.2.1.1.1, z5.1.2.1.1.2.1, ()), z5.1.2.1.2.1, ()), ()), ())).bind fun z51 =>
                                              some (z51.1, ())) (some (false, ()))) (some (false, ())))))))))))

end Go.L

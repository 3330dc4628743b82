/-
  sets: what is reckoned of them. sets: what tables make of them. sets: what states they hold.
  No condition beyond those that each theorem names.
-/
import Derived.Test.YtdadepdcllachaaGreatDoorT

/-! DA -/
namespace Go.L
open Go.PM
set_option exponentiation.threshold 20000
set_option linter.unusedVariables false
set_option linter.unusedSimpArgs false

def nm (f : Nat → Int × Int) : Nat → Int
  | 0 => 0
  | i + 1 => max (nm f i) (sz2 (f i))
/-- vec_Plus: one round of loop 0. -/
def vec_Plus_s0 (κ0 : (List SP) → (List SP) → Int → (List SP) → Int → Int → Option ((List SP) × Int × Unit)) (a : List SP) (b : List SP) (bits : Int) (out : List SP) (t21 : Int) (t22 : Int) : Option ((List SP) × Int × Unit) :=
  cond (decide (t22 < t21))
   (
   cond (decide (0 ≤ t22))
   (
   cond (decide (t22 < (a.length : Int)))
   (
   let z2 := a.getD t22.toNat (((false, ([], ())), (0, ())), (((false, ([], ())), (0, ())), ()))
   cond (decide (0 ≤ t22))
   (
   cond (decide (t22 < (b.length : Int)))
   (
   let z3 := b.getD t22.toNat (((false, ([], ())), (0, ())), (((false, ([], ())), (0, ())), ()))
   (S.span_Add ((((z2.1.1.1, z2.1.1.2.1, ()), z2.1.2.1, ()), ((z2.2.1.1.1, z2.2.1.1.2.1, ()), z2.2.1.2.1, ()), ()), (((z3.1.1.1, z3.1.1.2.1, ()), z3.1.2.1, ()), ((z3.2.1.1.1, z3.2.1.1.2.1, ()), z3.2.1.2.1, ()), ()), bits, ())).bind fun z4 =>
   cond (!(decide (z4.2.1 = 0))) (some ([], z4.2.1, ()))
   (
   cond (decide (0 ≤ t22))
   (
   cond (decide (t22 < (out.length : Int)))
   (
   κ0 a b bits (out.set t22.toNat (((z4.1.1.1.1, z4.1.1.1.2.1, ()), z4.1.1.2.1, ()), ((z4.1.2.1.1.1, z4.1.2.1.1.2.1, ()), z4.1.2.1.2.1, ()), ())) t21 (IntKind.i64.wrap (t22 + 1))) none) none)) none) none) none) none) (some (out, 0, ()))

def vec_Plus_l0 (K : Nat) : Nat → (List SP) → (List SP) → Int → (List SP) → Int → Int → Option ((List SP) × Int × Unit)
  | 0, _, _, _, _, _, _ => none
  | n + 1, a, b, bits, out, t21, t22 => vec_Plus_s0 (vec_Plus_l0 K n) a b bits out t21 t22

/-- vec.Plus -/
def vec_Plus_b (I0 : (List SP) → (List SP) → Int → (List SP) → Int → Int → Option ((List SP) × Int × Unit)) (a : List SP) (b : List SP) (bits : Int) : Option ((List SP) × Int × Unit) :=
  cond (!(decide ((a.length : Int) = (b.length : Int)))) (some ([], 20, ()))
   (
   cond (decide (0 ≤ (a.length : Int)))
   (
   cond (decide ((a.length : Int) * 80 ≤ 140737488351232))
   (
   I0 a b bits (List.replicate a.length (((false, ([], ())), (0, ())), (((false, ([], ())), (0, ())), ())) : List SP) (a.length : Int) 0) none) none)

def vec_Plus (K : Nat) (a : List SP) (b : List SP) (bits : Int) : Option ((List SP) × Int × Unit) := vec_Plus_b (vec_Plus_l0 K K) a b bits

def S.vec_Plus (x : List SP × List SP × Int × Unit) : Option (List SP × Int × Unit) := L.vec_Plus 100 x.1 x.2.1 x.2.2.1
abbrev pls (f g : Nat → Int × Int) (b i : Nat) : Int × Int := (rdn ((f i).1 + (g i).1) b, rup ((f i).2 + (g i).2) b)
theorem vec_Plus_Bx {n : Nat} {f g : Nat → Int × Int} {e : Int} {b k : Nat} (hn : n ≤ 16) (hf : bb n f k) (hg : bb n g k) (hk : k ≤ 480) (h0 : -60000 ≤ e) (h1 : e ≤ 20000) (hb : 2 ≤ b) (hb' : b ≤ 4096) : S.vec_Plus (Bx n f e, Bx n g e, (b : Int), ()) = some (Bx n (pls f g b) e, 0, ()) := by
  simp only [S.vec_Plus, L.vec_Plus, vec_Plus_b, Vx_len, decide_true, Bool.not_true, cond_false]
  rw [ct (by omega), ct (by omega), ← Gx_zero n _ (fun i => Sp (pls f g b i).1 (pls f g b i).2 e)]
  refine loop_up n (Gx n _ (fun i => Sp (pls f g b i).1 (pls f g b i).2 e)) (fun k s i => vec_Plus_l0 100 k (Bx n f e) (Bx n g e) (b : Int) s (n : Int) i) _ (fun k' i hi => ?_) (fun k => ?_) 100 (by omega)
  · simp only [vec_Plus_l0, vec_Plus_s0, Vx_len, Gx_len]
    rw [ct (by omega), ct (by omega), ct (by omega), ct (by omega), ct (by omega), Int.toNat_natCast, Vx_get hi, Vx_get hi]
    have e2 := span_Add_Sp (e := e) (b := b) (hf i hi) (hg i hi) (by omega) h0 h1 hb hb'
    rw [show S.span_Add _ = _ from e2, Option.bind_some]
    simp only [decide_true, Bool.not_true, cond_false]
    rw [ct (by omega), ct (by omega), wi1 (by omega)]
    have hs := Gx_set (((false, ([], ())), (0, ())), (((false, ([], ())), (0, ())), ())) (fun i => Sp (pls f g b i).1 (pls f g b i).2 e) hi
    exact congrArg (fun s => vec_Plus_l0 100 k' (Bx n f e) (Bx n g e) (b : Int) s (n : Int) ((i + 1 : Nat) : Int)) hs
  · simp only [vec_Plus_l0, vec_Plus_s0]
    rw [cf (by omega), Gx_full]
end Go.L

/-! DB -/
namespace Go.L
open Go.PM
set_option exponentiation.threshold 20000
set_option linter.unusedVariables false
set_option linter.unusedSimpArgs false

end Go.L

/-! DC -/
namespace Go.L
open Go.PM
set_option exponentiation.threshold 20000
set_option linter.unusedVariables false
set_option linter.unusedSimpArgs false

theorem inn_sum2 {f g : Nat → Int × Int} {p q : Nat → Rat} {e e' : Int} {n b : Nat} (hp : ∀ i < n, dv (f i).1 e ≤ p i ∧ p i ≤ dv (f i).2 e) (hq : ∀ i < n, dv (g i).1 e' ≤ q i ∧ q i ≤ dv (g i).2 e') : ∀ i ≤ n, dv (inn f g b i).1 (e + e') ≤ sumQ (fun i => p i * q i) i ∧ sumQ (fun i => p i * q i) i ≤ dv (inn f g b i).2 (e + e')
  | 0, _ => by simp only [inn, sumQ, dv_zero]; exact ⟨Rat.le_refl, Rat.le_refl⟩
  | i + 1, h => by
    obtain ⟨i1, i2⟩ := inn_sum2 (e := e) (b := b) hp hq i (by omega)
    have h1 := hp i (by omega)
    have h2 := hq i (by omega)
    obtain ⟨m1, m2⟩ := q_mul_mid h1.1 h1.2 h2.1 h2.2
    simp only [inn, sumQ]
    have r1 := rup_ge (mhi (f i).1 (f i).2 (g i).1 (g i).2) b
    have r2 := rup_ge ((inn f g b i).2 + rup (mhi (f i).1 (f i).2 (g i).1 (g i).2) b) b
    have r3 := rdn_le (mlo (f i).1 (f i).2 (g i).1 (g i).2) b
    have r4 := rdn_le ((inn f g b i).1 + rdn (mlo (f i).1 (f i).2 (g i).1 (g i).2) b) b
    have d1 : dv ((inn f g b i).2 + mhi (f i).1 (f i).2 (g i).1 (g i).2) (e + e') ≤ dv (rup ((inn f g b i).2 + rup (mhi (f i).1 (f i).2 (g i).1 (g i).2) b) b) (e + e') := dv_le.2 (by omega)
    have d2 : dv (rdn ((inn f g b i).1 + rdn (mlo (f i).1 (f i).2 (g i).1 (g i).2) b) b) (e + e') ≤ dv ((inn f g b i).1 + mlo (f i).1 (f i).2 (g i).1 (g i).2) (e + e') := dv_le.2 (by omega)
    rw [dv_add] at d1 d2
    grind
abbrev g2 (m : Nat) (g g' : Nat → Nat → Int) (k i : Nat) : Int := if k < m then g k i else g' (k - m) i
end Go.L

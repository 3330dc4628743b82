/-
  Tables, series: the functions in plain form.
  No condition beyond those that each theorem names.
-/
import Derived.Test.YtdadepdcllachaaGreatDoorW

/-! EA -/
namespace Go.L
open Go.PM
set_option linter.unusedVariables false
set_option linter.unusedSimpArgs false
/-- mat_grid_api_Span_shape: one round of loop 0. -/
def mat_grid_api_Span_shape_s0 (κ0 : (List (List SP)) → (List (List SP)) → Int → Int → Option (Int × Int × Int × Unit)) (a : List (List SP)) (t10 : List (List SP)) (t11 : Int) (t12 : Int) : Option (Int × Int × Int × Unit) :=
  cond (decide (t12 < t11))
   (
   cond (decide (0 ≤ t12))
   (
   cond (decide (t12 < (t10.length : Int)))
   (
   cond (decide (0 < (a.length : Int)))
   (
   cond (!(decide (((t10.getD t12.toNat []).length : Int) = ((a.getD 0 []).length : Int)))) (some (0, 0, 20, ())) (κ0 a t10 t11 (IntKind.i64.wrap (t12 + 1)))) none) none) none)
   (
   cond (decide (0 < (a.length : Int))) (some ((a.length : Int), ((a.getD 0 []).length : Int), 0, ())) none)

def mat_grid_api_Span_shape_l0 (K : Nat) : Nat → (List (List SP)) → (List (List SP)) → Int → Int → Option (Int × Int × Int × Unit)
  | 0, _, _, _, _ => none
  | n + 1, a, t10, t11, t12 => mat_grid_api_Span_shape_s0 (mat_grid_api_Span_shape_l0 K n) a t10 t11 t12

/-- (mat.grid[api.Span]).shape -/
def mat_grid_api_Span_shape_b (I0 : (List (List SP)) → (List (List SP)) → Int → Int → Option (Int × Int × Int × Unit)) (a : List (List SP)) : Option (Int × Int × Int × Unit) :=
  cond (decide ((a.length : Int) = 0)) (some (0, 0, 0, ())) (I0 a a (a.length : Int) 0)

def mat_grid_api_Span_shape (K : Nat) (a : List (List SP)) : Option (Int × Int × Int × Unit) := mat_grid_api_Span_shape_b (mat_grid_api_Span_shape_l0 K K) a

def S.mat_grid_api_Span_shape (x : (List (List SP)) × Unit) : Option (Int × Int × Int × Unit) := L.mat_grid_api_Span_shape 100 x.1
/-- mat_turn_api_Span: one round of loop 1. -/
def mat_turn_api_Span_s1 (κ0 : (List (List SP)) → (List (List SP)) → Int → Int → Option ((List (List SP)) × Int × Unit)) (κ1 : (List (List SP)) → (List (List SP)) → Int → Int → Int → (List (List SP)) → Int → Int → Option ((List (List SP)) × Int × Unit)) (a : List (List SP)) (out : List (List SP)) (i : Int) (t23 : Int) (t24 : Int) (t27 : List (List SP)) (t28 : Int) (t29 : Int) : Option ((List (List SP)) × Int × Unit) :=
  cond (decide (t29 < t28))
   (
   cond (decide (0 ≤ t29))
   (
   cond (decide (t29 < (t27.length : Int)))
   (
   let z3 := t27.getD t29.toNat []
   cond (decide (0 ≤ i))
   (
   cond (decide (i < (out.length : Int)))
   (
   cond (decide (0 ≤ i))
   (
   cond (decide (i < (z3.length : Int)))
   (
   let z4 := z3.getD i.toNat (((false, ([], ())), (0, ())), (((false, ([], ())), (0, ())), ()))
   cond (decide (((out.getD i.toNat []).length + ([(((z4.1.1.1, z4.1.1.2.1, ()), z4.1.2.1, ()), ((z4.2.1.1.1, z4.2.1.1.2.1, ()), z4.2.1.2.1, ()), ())]).length) * 80 ≤ 140737488351232))
   (
   cond (decide (0 ≤ i))
   (
   cond (decide (i < (out.length : Int)))
   (
   cond (decide (i.toNat = i.toNat))
   (
   κ1 a (out.set i.toNat ((out.getD i.toNat []) ++ ([(((z4.1.1.1, z4.1.1.2.1, ()), z4.1.2.1, ()), ((z4.2.1.1.1, z4.2.1.1.2.1, ()), z4.2.1.2.1, ()), ())]))) i t23 t24 t27 t28 (IntKind.i64.wrap (t29 + 1))) none) none) none) none) none) none) none) none) none) none) (κ0 a out t23 (IntKind.i64.wrap (t24 + 1)))

def mat_turn_api_Span_l1 (K : Nat) (κ0 : (List (List SP)) → (List (List SP)) → Int → Int → Option ((List (List SP)) × Int × Unit)) : Nat → (List (List SP)) → (List (List SP)) → Int → Int → Int → (List (List SP)) → Int → Int → Option ((List (List SP)) × Int × Unit)
  | 0, _, _, _, _, _, _, _, _ => none
  | n + 1, a, out, i, t23, t24, t27, t28, t29 => mat_turn_api_Span_s1 κ0 (mat_turn_api_Span_l1 K κ0 n) a out i t23 t24 t27 t28 t29

/-- mat_turn_api_Span: one round of loop 0. -/
def mat_turn_api_Span_s0 (I1 : (List (List SP)) → (List (List SP)) → Int → Int → Int → (List (List SP)) → Int → Int → Option ((List (List SP)) × Int × Unit)) (κ0 : (List (List SP)) → (List (List SP)) → Int → Int → Option ((List (List SP)) × Int × Unit)) (a : List (List SP)) (out : List (List SP)) (t23 : Int) (t24 : Int) : Option ((List (List SP)) × Int × Unit) :=
  cond (decide (t24 < t23)) (I1 a out t24 t23 t24 a (a.length : Int) 0) (some (out, 0, ()))

def mat_turn_api_Span_l0 (K : Nat) : Nat → (List (List SP)) → (List (List SP)) → Int → Int → Option ((List (List SP)) × Int × Unit)
  | 0, _, _, _, _ => none
  | n + 1, a, out, t23, t24 => mat_turn_api_Span_s0 (mat_turn_api_Span_l1 K (mat_turn_api_Span_l0 K n) K) (mat_turn_api_Span_l0 K n) a out t23 t24

/-- mat.turn[api.Span] -/
def mat_turn_api_Span_b (I0 : (List (List SP)) → (List (List SP)) → Int → Int → Option ((List (List SP)) × Int × Unit)) (a : List (List SP)) : Option ((List (List SP)) × Int × Unit) :=
  (S.mat_grid_api_Span_shape (a, ())).bind fun z1 =>
  cond (!(decide (z1.2.2.1 = 0))) (some ([], z1.2.2.1, ()))
   (
   cond (decide (0 ≤ z1.2.1))
   (
   cond (decide (z1.2.1 * 24 ≤ 140737488351232))
   (
   let z2 := (List.replicate z1.2.1.toNat [] : List (List SP))
   I0 a z2 (z2.length : Int) 0) none) none)

def mat_turn_api_Span (K : Nat) (a : List (List SP)) : Option ((List (List SP)) × Int × Unit) := mat_turn_api_Span_b (mat_turn_api_Span_l0 K K) a

def S.mat_turn_api_Span (x : (List (List SP)) × Unit) : Option ((List (List SP)) × Int × Unit) := L.mat_turn_api_Span 100 x.1
/-- mat_Times: one round of loop 1. -/
def mat_Times_s1 (κ0 : Int → (List (List SP)) → (List (List SP)) → (List (List SP)) → Int → Int → Option ((List (List SP)) × Int × Unit)) (κ1 : Int → (List (List SP)) → (List (List SP)) → Int → (List SP) → (List (List SP)) → Int → Int → (List (List SP)) → Int → Int → Option ((List (List SP)) × Int × Unit)) (bits : Int) (t : List (List SP)) (out : List (List SP)) (i : Int) (r : List SP) (t45 : List (List SP)) (t46 : Int) (t47 : Int) (t52 : List (List SP)) (t53 : Int) (t54 : Int) : Option ((List (List SP)) × Int × Unit) :=
  cond (decide (t54 < t53))
   (
   cond (decide (0 ≤ t54))
   (
   cond (decide (t54 < (t52.length : Int)))
   (
   (S.vec_Inner (r, (t52.getD t54.toNat []), bits, ())).bind fun z6 =>
   cond (!(decide (z6.2.1 = 0))) (some ([], z6.2.1, ()))
   (
   cond (decide (0 ≤ i))
   (
   cond (decide (i < (out.length : Int)))
   (
   cond (decide (((out.getD i.toNat []).length + ([(((z6.1.1.1.1, z6.1.1.1.2.1, ()), z6.1.1.2.1, ()), ((z6.1.2.1.1.1, z6.1.2.1.1.2.1, ()), z6.1.2.1.2.1, ()), ())]).length) * 80 ≤ 140737488351232))
   (
   cond (decide (0 ≤ i))
   (
   cond (decide (i < (out.length : Int)))
   (
   cond (decide (i.toNat = i.toNat))
   (
   κ1 bits t (out.set i.toNat ((out.getD i.toNat []) ++ ([(((z6.1.1.1.1, z6.1.1.1.2.1, ()), z6.1.1.2.1, ()), ((z6.1.2.1.1.1, z6.1.2.1.1.2.1, ()), z6.1.2.1.2.1, ()), ())]))) i r t45 t46 t47 t52 t53 (IntKind.i64.wrap (t54 + 1))) none) none) none) none) none) none)) none) none) (κ0 bits t out t45 t46 (IntKind.i64.wrap (t47 + 1)))

def mat_Times_l1 (K : Nat) (κ0 : Int → (List (List SP)) → (List (List SP)) → (List (List SP)) → Int → Int → Option ((List (List SP)) × Int × Unit)) : Nat → Int → (List (List SP)) → (List (List SP)) → Int → (List SP) → (List (List SP)) → Int → Int → (List (List SP)) → Int → Int → Option ((List (List SP)) × Int × Unit)
  | 0, _, _, _, _, _, _, _, _, _, _, _ => none
  | n + 1, bits, t, out, i, r, t45, t46, t47, t52, t53, t54 => mat_Times_s1 κ0 (mat_Times_l1 K κ0 n) bits t out i r t45 t46 t47 t52 t53 t54

/-- mat_Times: one round of loop 0. -/
def mat_Times_s0 (I1 : Int → (List (List SP)) → (List (List SP)) → Int → (List SP) → (List (List SP)) → Int → Int → (List (List SP)) → Int → Int → Option ((List (List SP)) × Int × Unit)) (κ0 : Int → (List (List SP)) → (List (List SP)) → (List (List SP)) → Int → Int → Option ((List (List SP)) × Int × Unit)) (bits : Int) (t : List (List SP)) (out : List (List SP)) (t45 : List (List SP)) (t46 : Int) (t47 : Int) : Option ((List (List SP)) × Int × Unit) :=
  cond (decide (t47 < t46))
   (
   cond (decide (0 ≤ t47))
   (
   cond (decide (t47 < (t45.length : Int))) (I1 bits t out t47 (t45.getD t47.toNat []) t45 t46 t47 t (t.length : Int) 0) none) none) (some (out, 0, ()))

def mat_Times_l0 (K : Nat) : Nat → Int → (List (List SP)) → (List (List SP)) → (List (List SP)) → Int → Int → Option ((List (List SP)) × Int × Unit)
  | 0, _, _, _, _, _, _ => none
  | n + 1, bits, t, out, t45, t46, t47 => mat_Times_s0 (mat_Times_l1 K (mat_Times_l0 K n) K) (mat_Times_l0 K n) bits t out t45 t46 t47

/-- mat.Times -/
def mat_Times_b (I0 : Int → (List (List SP)) → (List (List SP)) → (List (List SP)) → Int → Int → Option ((List (List SP)) × Int × Unit)) (a : List (List SP)) (b : List (List SP)) (bits : Int) : Option ((List (List SP)) × Int × Unit) :=
  (S.mat_turn_api_Span (b, ())).bind fun z1 =>
  cond (!(decide (z1.2.1 = 0))) (some ([], z1.2.1, ()))
   (
   (S.mat_grid_api_Span_shape (a, ())).bind fun z2 =>
   cond (!(decide (z2.2.2.1 = 0))) (some ([], 20, ()))
   (
   cond (!(decide (z2.2.1 = (b.length : Int)))) (some ([], 20, ()))
   (
   cond (decide (0 ≤ (a.length : Int)))
   (
   cond (decide ((a.length : Int) * 24 ≤ 140737488351232))
   (
   I0 bits z1.1 (List.replicate a.length [] : List (List SP)) a (a.length : Int) 0) none) none)))

def mat_Times (K : Nat) (a : List (List SP)) (b : List (List SP)) (bits : Int) : Option ((List (List SP)) × Int × Unit) := mat_Times_b (mat_Times_l0 K K) a b bits

def S.mat_Times (x : (List (List SP)) × (List (List SP)) × Int × Unit) : Option ((List (List SP)) × Int × Unit) := L.mat_Times 100 x.1 x.2.1 x.2.2.1
/-- mat_Plus: one round of loop 0. -/
def mat_Plus_s0 (κ0 : (List (List SP)) → (List (List SP)) → Int → (List (List SP)) → Int → Int → Option ((List (List SP)) × Int × Unit)) (a : List (List SP)) (b : List (List SP)) (bits : Int) (out : List (List SP)) (t21 : Int) (t22 : Int) : Option ((List (List SP)) × Int × Unit) :=
  cond (decide (t22 < t21))
   (
   cond (decide (0 ≤ t22))
   (
   cond (decide (t22 < (a.length : Int)))
   (
   cond (decide (0 ≤ t22))
   (
   cond (decide (t22 < (b.length : Int)))
   (
   (S.vec_Plus ((a.getD t22.toNat []), (b.getD t22.toNat []), bits, ())).bind fun z4 =>
   cond (!(decide (z4.2.1 = 0))) (some ([], z4.2.1, ()))
   (
   cond (decide (0 ≤ t22))
   (
   cond (decide (t22 < (out.length : Int))) (κ0 a b bits (out.set t22.toNat z4.1) t21 (IntKind.i64.wrap (t22 + 1))) none) none)) none) none) none) none) (some (out, 0, ()))

def mat_Plus_l0 (K : Nat) : Nat → (List (List SP)) → (List (List SP)) → Int → (List (List SP)) → Int → Int → Option ((List (List SP)) × Int × Unit)
  | 0, _, _, _, _, _, _ => none
  | n + 1, a, b, bits, out, t21, t22 => mat_Plus_s0 (mat_Plus_l0 K n) a b bits out t21 t22

/-- mat.Plus -/
def mat_Plus_b (I0 : (List (List SP)) → (List (List SP)) → Int → (List (List SP)) → Int → Int → Option ((List (List SP)) × Int × Unit)) (a : List (List SP)) (b : List (List SP)) (bits : Int) : Option ((List (List SP)) × Int × Unit) :=
  cond (!(decide ((a.length : Int) = (b.length : Int)))) (some ([], 20, ()))
   (
   cond (decide (0 ≤ (a.length : Int)))
   (
   cond (decide ((a.length : Int) * 24 ≤ 140737488351232))
   (
   I0 a b bits (List.replicate a.length [] : List (List SP)) (a.length : Int) 0) none) none)

def mat_Plus (K : Nat) (a : List (List SP)) (b : List (List SP)) (bits : Int) : Option ((List (List SP)) × Int × Unit) := mat_Plus_b (mat_Plus_l0 K K) a b bits

def S.mat_Plus (x : (List (List SP)) × (List (List SP)) × Int × Unit) : Option ((List (List SP)) × Int × Unit) := L.mat_Plus 100 x.1 x.2.1 x.2.2.1
/-- series.Twice -/
def series_Twice (p : (List (List SP)) × (List (List SP)) × Unit) (bits : Int) : Option (((List (List SP)) × (List (List SP)) × Unit) × Int × Unit) :=
  (S.mat_Times (p.1, p.2.1, bits, ())).bind fun z1 =>
  cond (!(decide (z1.2.1 = 0))) (some (([], [], ()), z1.2.1, ()))
   (
   (S.mat_Plus (p.2.1, z1.1, bits, ())).bind fun z2 =>
   cond (!(decide (z2.2.1 = 0))) (some (([], [], ()), z2.2.1, ()))
   (
   (S.mat_Times (p.1, p.1, bits, ())).bind fun z3 =>
   some ((z3.1, z2.1, ()), z3.2.1, ())))

def S.series_Twice (x : ((List (List SP)) × (List (List SP)) × Unit) × Int × Unit) : Option (((List (List SP)) × (List (List SP)) × Unit) × Int × Unit) := L.series_Twice x.1 x.2.1
/-- vec_Times: one round of loop 0. -/
def vec_Times_s0 (κ0 : Int → Bool → (List Int) → Int → Bool → (List Int) → Int → (List SP) → (List SP) → Int → Int → Option ((List SP) × Int × Unit)) (bits : Int) (by_0 : Bool) (by_1 : List Int) (by_2 : Int) (by_3 : Bool) (by_4 : List Int) (by_5 : Int) (out : List SP) (t16 : List SP) (t17 : Int) (t18 : Int) : Option ((List SP) × Int × Unit) :=
  cond (decide (t18 < t17))
   (
   cond (decide (0 ≤ t18))
   (
   cond (decide (t18 < (t16.length : Int)))
   (
   let z2 := t16.getD t18.toNat (((false, ([], ())), (0, ())), (((false, ([], ())), (0, ())), ()))
   (S.span_Mul ((((z2.1.1.1, z2.1.1.2.1, ()), z2.1.2.1, ()), ((z2.2.1.1.1, z2.2.1.1.2.1, ()), z2.2.1.2.1, ()), ()), (((by_0, by_1, ()), by_2, ()), ((by_3, by_4, ()), by_5, ()), ()), bits, ())).bind fun z3 =>
   cond (!(decide (z3.2.1 = 0))) (some ([], z3.2.1, ()))
   (
   cond (decide (0 ≤ t18))
   (
   cond (decide (t18 < (out.length : Int)))
   (
   κ0 bits by_0 by_1 by_2 by_3 by_4 by_5 (out.set t18.toNat (((z3.1.1.1.1, z3.1.1.1.2.1, ()), z3.1.1.2.1, ()), ((z3.1.2.1.1.1, z3.1.2.1.1.2.1, ()), z3.1.2.1.2.1, ()), ())) t16 t17 (IntKind.i64.wrap (t18 + 1))) none) none)) none) none) (some (out, 0, ()))

def vec_Times_l0 (K : Nat) : Nat → Int → Bool → (List Int) → Int → Bool → (List Int) → Int → (List SP) → (List SP) → Int → Int → Option ((List SP) × Int × Unit)
  | 0, _, _, _, _, _, _, _, _, _, _, _ => none
  | n + 1, bits, by_0, by_1, by_2, by_3, by_4, by_5, out, t16, t17, t18 => vec_Times_s0 (vec_Times_l0 K n) bits by_0 by_1 by_2 by_3 by_4 by_5 out t16 t17 t18

/-- vec.Times -/
def vec_Times_b (I0 : Int → Bool → (List Int) → Int → Bool → (List Int) → Int → (List SP) → (List SP) → Int → Int → Option ((List SP) × Int × Unit)) (a : List SP) (by_ : SP) (bits : Int) : Option ((List SP) × Int × Unit) :=
  cond (decide (0 ≤ (a.length : Int)))
   (
   cond (decide ((a.length : Int) * 80 ≤ 140737488351232))
   (
   I0 bits by_.1.1.1 by_.1.1.2.1 by_.1.2.1 by_.2.1.1.1 by_.2.1.1.2.1 by_.2.1.2.1 (List.replicate a.length (((false, ([], ())), (0, ())), (((false, ([], ())), (0, ())), ())) : List SP) a (a.length : Int) 0) none) none

def vec_Times (K : Nat) (a : List SP) (by_ : SP) (bits : Int) : Option ((List SP) × Int × Unit) := vec_Times_b (vec_Times_l0 K K) a by_ bits

def S.vec_Times (x : (List SP) × SP × Int × Unit) : Option ((List SP) × Int × Unit) := L.vec_Times 100 x.1 x.2.1 x.2.2.1
/-- series_Scaled: one round of loop 0. -/
def series_Scaled_s0 (κ0 : Int → Bool → (List Int) → Int → Bool → (List Int) → Int → (List (List SP)) → (List (List SP)) → Int → Int → Option ((List (List SP)) × Int × Unit)) (bits : Int) (by_0 : Bool) (by_1 : List Int) (by_2 : Int) (by_3 : Bool) (by_4 : List Int) (by_5 : Int) (out : List (List SP)) (t16 : List (List SP)) (t17 : Int) (t18 : Int) : Option ((List (List SP)) × Int × Unit) :=
  cond (decide (t18 < t17))
   (
   cond (decide (0 ≤ t18))
   (
   cond (decide (t18 < (t16.length : Int)))
   (
   (S.vec_Times ((t16.getD t18.toNat []), (((by_0, by_1, ()), by_2, ()), ((by_3, by_4, ()), by_5, ()), ()), bits, ())).bind fun z3 =>
   cond (!(decide (z3.2.1 = 0))) (some ([], z3.2.1, ()))
   (
   cond (decide (0 ≤ t18))
   (
   cond (decide (t18 < (out.length : Int)))
   (
   κ0 bits by_0 by_1 by_2 by_3 by_4 by_5 (out.set t18.toNat z3.1) t16 t17 (IntKind.i64.wrap (t18 + 1))) none) none)) none) none) (some (out, 0, ()))

def series_Scaled_l0 (K : Nat) : Nat → Int → Bool → (List Int) → Int → Bool → (List Int) → Int → (List (List SP)) → (List (List SP)) → Int → Int → Option ((List (List SP)) × Int × Unit)
  | 0, _, _, _, _, _, _, _, _, _, _, _ => none
  | n + 1, bits, by_0, by_1, by_2, by_3, by_4, by_5, out, t16, t17, t18 => series_Scaled_s0 (series_Scaled_l0 K n) bits by_0 by_1 by_2 by_3 by_4 by_5 out t16 t17 t18

/-- series.Scaled -/
def series_Scaled_b (I0 : Int → Bool → (List Int) → Int → Bool → (List Int) → Int → (List (List SP)) → (List (List SP)) → Int → Int → Option ((List (List SP)) × Int × Unit)) (a : List (List SP)) (by_ : SP) (bits : Int) : Option ((List (List SP)) × Int × Unit) :=
  cond (decide (0 ≤ (a.length : Int)))
   (
   cond (decide ((a.length : Int) * 24 ≤ 140737488351232))
   (
   I0 bits by_.1.1.1 by_.1.1.2.1 by_.1.2.1 by_.2.1.1.1 by_.2.1.1.2.1 by_.2.1.2.1 (List.replicate a.length [] : List (List SP)) a (a.length : Int) 0) none) none

def series_Scaled (K : Nat) (a : List (List SP)) (by_ : SP) (bits : Int) : Option ((List (List SP)) × Int × Unit) := series_Scaled_b (series_Scaled_l0 K K) a by_ bits

def S.series_Scaled (x : (List (List SP)) × SP × Int × Unit) : Option ((List (List SP)) × Int × Unit) := L.series_Scaled 100 x.1 x.2.1 x.2.2.1
/-- mat_Even: one round of loop 1. -/
def mat_Even_s1 (κ0 : Bool → (List Int) → Int → (List (List SP)) → Int → Int → Option ((List (List SP)) × Unit)) (κ1 : Bool → (List Int) → Int → (List (List SP)) → Int → Int → Int → Int → Int → Option ((List (List SP)) × Unit)) (size_0 : Bool) (size_1 : List Int) (size_2 : Int) (out : List (List SP)) (i : Int) (t12 : Int) (t13 : Int) (t17 : Int) (t18 : Int) : Option ((List (List SP)) × Unit) :=
  cond (decide (t18 < t17))
   (
   cond (decide (0 ≤ i))
   (
   cond (decide (i < (out.length : Int)))
   (
   (S.span_Even (((size_0, size_1, ()), size_2, ()), ())).bind fun z4 =>
   cond (decide (((out.getD i.toNat []).length + ([(((z4.1.1.1.1, z4.1.1.1.2.1, ()), z4.1.1.2.1, ()), ((z4.1.2.1.1.1, z4.1.2.1.1.2.1, ()), z4.1.2.1.2.1, ()), ())]).length) * 80 ≤ 140737488351232))
   (
   cond (decide (0 ≤ i))
   (
   cond (decide (i < (out.length : Int)))
   (
   cond (decide (i.toNat = i.toNat))
   (
   κ1 size_0 size_1 size_2 (out.set i.toNat ((out.getD i.toNat []) ++ ([(((z4.1.1.1.1, z4.1.1.1.2.1, ()), z4.1.1.2.1, ()), ((z4.1.2.1.1.1, z4.1.2.1.1.2.1, ()), z4.1.2.1.2.1, ()), ())]))) i t12 t13 t17 (IntKind.i64.wrap (t18 + 1))) none) none) none) none) none) none) (κ0 size_0 size_1 size_2 out t12 (IntKind.i64.wrap (t13 + 1)))

def mat_Even_l1 (K : Nat) (κ0 : Bool → (List Int) → Int → (List (List SP)) → Int → Int → Option ((List (List SP)) × Unit)) : Nat → Bool → (List Int) → Int → (List (List SP)) → Int → Int → Int → Int → Int → Option ((List (List SP)) × Unit)
  | 0, _, _, _, _, _, _, _, _, _ => none
  | n + 1, size_0, size_1, size_2, out, i, t12, t13, t17, t18 => mat_Even_s1 κ0 (mat_Even_l1 K κ0 n) size_0 size_1 size_2 out i t12 t13 t17 t18

/-- mat_Even: one round of loop 0. -/
def mat_Even_s0 (I1 : Bool → (List Int) → Int → (List (List SP)) → Int → Int → Int → Int → Int → Option ((List (List SP)) × Unit)) (κ0 : Bool → (List Int) → Int → (List (List SP)) → Int → Int → Option ((List (List SP)) × Unit)) (size_0 : Bool) (size_1 : List Int) (size_2 : Int) (out : List (List SP)) (t12 : Int) (t13 : Int) : Option ((List (List SP)) × Unit) :=
  cond (decide (t13 < t12)) (I1 size_0 size_1 size_2 out t13 t12 t13 (out.length : Int) 0) (some (out, ()))

def mat_Even_l0 (K : Nat) : Nat → Bool → (List Int) → Int → (List (List SP)) → Int → Int → Option ((List (List SP)) × Unit)
  | 0, _, _, _, _, _, _ => none
  | n + 1, size_0, size_1, size_2, out, t12, t13 => mat_Even_s0 (mat_Even_l1 K (mat_Even_l0 K n) K) (mat_Even_l0 K n) size_0 size_1 size_2 out t12 t13

/-- mat.Even -/
def mat_Even_b (I0 : Bool → (List Int) → Int → (List (List SP)) → Int → Int → Option ((List (List SP)) × Unit)) (n : Int) (size : DY) : Option ((List (List SP)) × Unit) :=
  cond (decide (0 ≤ (min (max n 0) 16)))
   (
   cond (decide ((min (max n 0) 16) * 24 ≤ 140737488351232))
   (
   let z3 := (List.replicate (min (max n 0) 16).toNat [] : List (List SP))
   I0 size.1.1 size.1.2.1 size.2.1 z3 (z3.length : Int) 0) none) none

def mat_Even (K : Nat) (n : Int) (size : DY) : Option ((List (List SP)) × Unit) := mat_Even_b (mat_Even_l0 K K) n size

def S.mat_Even (x : Int × DY × Unit) : Option ((List (List SP)) × Unit) := L.mat_Even 100 x.1 x.2.1
/-- series.divided -/
def series_divided (a : List (List SP)) (by_ : Int) (bits : Int) : Option ((List (List SP)) × Int × Unit) :=
  (S.ratio_Of (1, by_, ())).bind fun z1 =>
  (S.span_Near (((z1.1.1.1, z1.1.1.2.1, ()), z1.1.2.1, ()), bits, ())).bind fun z2 =>
  cond (!(decide (z2.2.1 = 0))) (some ([], z2.2.1, ()))
   (
   (S.series_Scaled (a, (((z2.1.1.1.1, z2.1.1.1.2.1, ()), z2.1.1.2.1, ()), ((z2.1.2.1.1.1, z2.1.2.1.1.2.1, ()), z2.1.2.1.2.1, ()), ()), bits, ())).bind fun z3 =>
   some (z3.1, z3.2.1, ()))

def S.series_divided (x : (List (List SP)) × Int × Int × Unit) : Option ((List (List SP)) × Int × Unit) := L.series_divided x.1 x.2.1 x.2.2.1
/-- mat_Zero: one round of loop 0. -/
def mat_Zero_s0 (κ0 : Int → (List (List RT)) → Int → Int → Option ((List (List RT)) × Unit)) (cols : Int) (out : List (List RT)) (t12 : Int) (t13 : Int) : Option ((List (List RT)) × Unit) :=
  cond (decide (t13 < t12))
   (
   (S.vec_Zero (cols, ())).bind fun z4 =>
   cond (decide (0 ≤ t13))
   (
   cond (decide (t13 < (out.length : Int))) (κ0 cols (out.set t13.toNat z4.1) t12 (IntKind.i64.wrap (t13 + 1))) none) none) (some (out, ()))

def mat_Zero_l0 (K : Nat) : Nat → Int → (List (List RT)) → Int → Int → Option ((List (List RT)) × Unit)
  | 0, _, _, _, _ => none
  | n + 1, cols, out, t12, t13 => mat_Zero_s0 (mat_Zero_l0 K n) cols out t12 t13

/-- mat.Zero -/
def mat_Zero_b (I0 : Int → (List (List RT)) → Int → Int → Option ((List (List RT)) × Unit)) (rows : Int) (cols : Int) : Option ((List (List RT)) × Unit) :=
  cond (decide (0 ≤ (min (max rows 0) 16)))
   (
   cond (decide ((min (max rows 0) 16) * 24 ≤ 140737488351232))
   (
   let z3 := (List.replicate (min (max rows 0) 16).toNat [] : List (List RT))
   I0 cols z3 (z3.length : Int) 0) none) none

def mat_Zero (K : Nat) (rows : Int) (cols : Int) : Option ((List (List RT)) × Unit) := mat_Zero_b (mat_Zero_l0 K K) rows cols

def S.mat_Zero (x : Int × Int × Unit) : Option ((List (List RT)) × Unit) := L.mat_Zero 100 x.1 x.2.1
/-- mat_One: one round of loop 0. -/
def mat_One_s0 (κ0 : Int → (List (List RT)) → Int → Int → Option ((List (List RT)) × Unit)) (n2 : Int) (out : List (List RT)) (t9 : Int) (t10 : Int) : Option ((List (List RT)) × Unit) :=
  cond (decide (t10 < t9))
   (
   (S.vec_Unit (n2, t10, ())).bind fun z2 =>
   cond (decide (0 ≤ t10))
   (
   cond (decide (t10 < (out.length : Int))) (κ0 n2 (out.set t10.toNat z2.1) t9 (IntKind.i64.wrap (t10 + 1))) none) none) (some (out, ()))

def mat_One_l0 (K : Nat) : Nat → Int → (List (List RT)) → Int → Int → Option ((List (List RT)) × Unit)
  | 0, _, _, _, _ => none
  | n + 1, n2, out, t9, t10 => mat_One_s0 (mat_One_l0 K n) n2 out t9 t10

/-- mat.One -/
def mat_One_b (I0 : Int → (List (List RT)) → Int → Int → Option ((List (List RT)) × Unit)) (n : Int) : Option ((List (List RT)) × Unit) :=
  (S.mat_Zero (n, n, ())).bind fun z1 =>
  I0 n z1.1 (z1.1.length : Int) 0

def mat_One (K : Nat) (n : Int) : Option ((List (List RT)) × Unit) := mat_One_b (mat_One_l0 K K) n

def S.mat_One (x : Int × Unit) : Option ((List (List RT)) × Unit) := L.mat_One 100 x.1
/-- series_Terms: one round of loop 0. -/
def series_Terms_s0 (κ0 : Int → Bool → (List Int) → Int → (List Int) → Int → Option (Int × DY × Unit)) (bits : Int) (t3_0 : Bool) (t3_1 : List Int) (t3_2 : Int) (size : List Int) (k : Int) : Option (Int × DY × Unit) :=
  (S.limbs_Bits (size, ())).bind fun z2 =>
  cond (decide (z2.1 < (IntKind.i64.wrap (bits + 2))))
   (
   let z4 := IntKind.i64.wrap (k + 1)
   (S.limbs_Of ((IntKind.u64.wrap (IntKind.i64.wrap (2 * z4))), ())).bind fun z7 =>
   (S.limbs_Mul (size, z7.1, ())).bind fun z8 =>
   κ0 bits t3_0 t3_1 t3_2 z8.1 z4)
   (
   (S.whole_Of (1, ())).bind fun z9 =>
   (S.limbs_Bits (size, ())).bind fun z10 =>
   (S.dyad_Make ((z9.1.1, z9.1.2.1, ()), (IntKind.i64.wrap (2 - z10.1)), ())).bind fun z12 =>
   some (k, ((z12.1.1.1, z12.1.1.2.1, ()), z12.1.2.1, ()), ()))

def series_Terms_l0 (K : Nat) : Nat → Int → Bool → (List Int) → Int → (List Int) → Int → Option (Int × DY × Unit)
  | 0, _, _, _, _, _, _ => none
  | n + 1, bits, t3_0, t3_1, t3_2, size, k => series_Terms_s0 (series_Terms_l0 K n) bits t3_0 t3_1 t3_2 size k

/-- series.Terms -/
def series_Terms_b (I0 : Int → Bool → (List Int) → Int → (List Int) → Int → Option (Int × DY × Unit)) (bits : Int) : Option (Int × DY × Unit) :=
  (S.limbs_Of (1, ())).bind fun z1 =>
  I0 bits false [] 0 z1.1 0

def series_Terms (K : Nat) (bits : Int) : Option (Int × DY × Unit) := series_Terms_b (series_Terms_l0 K K) bits

def S.series_Terms (x : Int × Unit) : Option (Int × DY × Unit) := L.series_Terms 100 x.1
/-- series_sums: one round of loop 0. -/
def series_sums_s0 (κ0 : (List (List SP)) → Int → Int → Bool → (List Int) → (List Int) → Bool → (List Int) → Int → (List (List SP)) → (List (List SP)) → (List (List SP)) → (List (List SP)) → (List (List SP)) → Int → Option (((List (List SP)) × (List (List SP)) × Unit) × Int × Unit)) (x : List (List SP)) (k : Int) (bits : Int) (t_0 : Bool) (t_1 : List Int) (t_2 : List Int) (left_0 : Bool) (left_1 : List Int) (left_2 : Int) (t10_0 : List (List SP)) (t10_1 : List (List SP)) (term : List (List SP)) (p_0 : List (List SP)) (p_1 : List (List SP)) (j : Int) : Option (((List (List SP)) × (List (List SP)) × Unit) × Int × Unit) :=
  cond (decide (j < k))
   (
   (S.mat_Times (term, x, bits, ())).bind fun z3 =>
   cond (!(decide (z3.2.1 = 0))) (some (([], [], ()), z3.2.1, ()))
   (
   (S.series_divided (z3.1, j, bits, ())).bind fun z4 =>
   cond (!(decide (z4.2.1 = 0))) (some (([], [], ()), z4.2.1, ()))
   (
   (S.mat_Plus (p_0, z4.1, bits, ())).bind fun z5 =>
   cond (!(decide (z5.2.1 = 0))) (some (([], [], ()), z5.2.1, ()))
   (
   (S.series_divided (z4.1, (IntKind.i64.wrap (j + 1)), bits, ())).bind fun z7 =>
   cond (!(decide (z7.2.1 = 0))) (some (([], [], ()), z7.2.1, ()))
   (
   (S.mat_Plus (p_1, z7.1, bits, ())).bind fun z8 =>
   cond (!(decide (z8.2.1 = 0))) (some (([], [], ()), z8.2.1, ()))
   (
   κ0 x k bits t_0 t_1 t_2 left_0 left_1 left_2 t10_0 t10_1 z4.1 z5.1 z8.1 (IntKind.i64.wrap (j + 1))))))))
   (
   (S.mat_Even ((x.length : Int), ((left_0, left_1, ()), left_2, ()), ())).bind fun z10 =>
   (S.mat_Plus (p_0, z10.1, bits, ())).bind fun z11 =>
   cond (!(decide (z11.2.1 = 0))) (some (([], [], ()), z11.2.1, ()))
   (
   (S.mat_Plus (p_1, z10.1, bits, ())).bind fun z12 =>
   cond (!(decide (z12.2.1 = 0))) (some (([], [], ()), z12.2.1, ()))
   (
   (S.span_Near (((t_0, t_1, ()), t_2, ()), bits, ())).bind fun z13 =>
   cond (!(decide (z13.2.1 = 0))) (some (([], [], ()), z13.2.1, ()))
   (
   (S.series_Scaled (z12.1, (((z13.1.1.1.1, z13.1.1.1.2.1, ()), z13.1.1.2.1, ()), ((z13.1.2.1.1.1, z13.1.2.1.1.2.1, ()), z13.1.2.1.2.1, ()), ()), bits, ())).bind fun z14 =>
   some ((z11.1, z14.1, ()), z14.2.1, ())))))

def series_sums_l0 (K : Nat) : Nat → (List (List SP)) → Int → Int → Bool → (List Int) → (List Int) → Bool → (List Int) → Int → (List (List SP)) → (List (List SP)) → (List (List SP)) → (List (List SP)) → (List (List SP)) → Int → Option (((List (List SP)) × (List (List SP)) × Unit) × Int × Unit)
  | 0, _, _, _, _, _, _, _, _, _, _, _, _, _, _, _ => none
  | n + 1, x, k, bits, t_0, t_1, t_2, left_0, left_1, left_2, t10_0, t10_1, term, p_0, p_1, j => series_sums_s0 (series_sums_l0 K n) x k bits t_0 t_1 t_2 left_0 left_1 left_2 t10_0 t10_1 term p_0 p_1 j

/-- series.sums -/
def series_sums_b (I0 : (List (List SP)) → Int → Int → Bool → (List Int) → (List Int) → Bool → (List Int) → Int → (List (List SP)) → (List (List SP)) → (List (List SP)) → (List (List SP)) → (List (List SP)) → Int → Option (((List (List SP)) × (List (List SP)) × Unit) × Int × Unit)) (x : List (List SP)) (t : RT) (k : Int) (left : DY) (bits : Int) : Option (((List (List SP)) × (List (List SP)) × Unit) × Int × Unit) :=
  (S.mat_One ((x.length : Int), ())).bind fun z1 =>
  (S.mat_Near (z1.1, bits, ())).bind fun z2 =>
  cond (!(decide (z2.2.1 = 0))) (some (([], [], ()), z2.2.1, ())) (I0 x k bits t.1.1 t.1.2.1 t.2.1 left.1.1 left.1.2.1 left.2.1 [] [] z2.1 z2.1 z2.1 1)

def series_sums (K : Nat) (x : List (List SP)) (t : RT) (k : Int) (left : DY) (bits : Int) : Option (((List (List SP)) × (List (List SP)) × Unit) × Int × Unit) := series_sums_b (series_sums_l0 K K) x t k left bits

def S.series_sums (x : (List (List SP)) × RT × Int × DY × Int × Unit) : Option (((List (List SP)) × (List (List SP)) × Unit) × Int × Unit) := L.series_sums 100 x.1 x.2.1 x.2.2.1 x.2.2.2.1 x.2.2.2.2.1
/-- mat_Scale: one round of loop 0. -/
def mat_Scale_s0 (κ0 : (List (List RT)) → Bool → (List Int) → (List Int) → (List (List RT)) → Int → Int → Option ((List (List RT)) × Int × Unit)) (a : List (List RT)) (by_0 : Bool) (by_1 : List Int) (by_2 : List Int) (out : List (List RT)) (t14 : Int) (t15 : Int) : Option ((List (List RT)) × Int × Unit) :=
  cond (decide (t15 < t14))
   (
   cond (decide (0 ≤ t15))
   (
   cond (decide (t15 < (a.length : Int)))
   (
   (S.vec_Scale ((a.getD t15.toNat []), ((by_0, by_1, ()), by_2, ()), ())).bind fun z3 =>
   cond (!(decide (z3.2.1 = 0))) (some ([], z3.2.1, ()))
   (
   cond (decide (0 ≤ t15))
   (
   cond (decide (t15 < (out.length : Int))) (κ0 a by_0 by_1 by_2 (out.set t15.toNat z3.1) t14 (IntKind.i64.wrap (t15 + 1))) none) none)) none) none) (some (out, 0, ()))

def mat_Scale_l0 (K : Nat) : Nat → (List (List RT)) → Bool → (List Int) → (List Int) → (List (List RT)) → Int → Int → Option ((List (List RT)) × Int × Unit)
  | 0, _, _, _, _, _, _, _ => none
  | n + 1, a, by_0, by_1, by_2, out, t14, t15 => mat_Scale_s0 (mat_Scale_l0 K n) a by_0 by_1 by_2 out t14 t15

/-- mat.Scale -/
def mat_Scale_b (I0 : (List (List RT)) → Bool → (List Int) → (List Int) → (List (List RT)) → Int → Int → Option ((List (List RT)) × Int × Unit)) (a : List (List RT)) (by_ : RT) : Option ((List (List RT)) × Int × Unit) :=
  cond (decide (0 ≤ (a.length : Int)))
   (
   cond (decide ((a.length : Int) * 24 ≤ 140737488351232))
   (
   I0 a by_.1.1 by_.1.2.1 by_.2.1 (List.replicate a.length [] : List (List RT)) (a.length : Int) 0) none) none

def mat_Scale (K : Nat) (a : List (List RT)) (by_ : RT) : Option ((List (List RT)) × Int × Unit) := mat_Scale_b (mat_Scale_l0 K K) a by_

def S.mat_Scale (x : (List (List RT)) × RT × Unit) : Option ((List (List RT)) × Int × Unit) := L.mat_Scale 100 x.1 x.2.1
/-- series.small -/
def series_small (m : List (List RT)) (t : RT) (n : Int) (bits : Int) : Option (((List (List SP)) × (List (List SP)) × Unit) × Int × Unit) :=
  (S.limbs_Of (1, ())).bind fun z1 =>
  (S.limbs_Left (z1.1, n, ())).bind fun z2 =>
  (S.whole_Of (1, ())).bind fun z3 =>
  (S.whole_Nat (z2.1, ())).bind fun z4 =>
  (S.ratio_Make ((z3.1.1, z3.1.2.1, ()), (z4.1.1, z4.1.2.1, ()), ())).bind fun z5 =>
  cond (!(decide (z5.2.1 = 0))) (some (([], [], ()), z5.2.1, ()))
   (
   (S.mat_Scale (m, ((z5.1.1.1, z5.1.1.2.1, ()), z5.1.2.1, ()), ())).bind fun z6 =>
   cond (!(decide (z6.2.1 = 0))) (some (([], [], ()), z6.2.1, ()))
   (
   (S.ratio_Mul (((t.1.1, t.1.2.1, ()), t.2.1, ()), ((z5.1.1.1, z5.1.1.2.1, ()), z5.1.2.1, ()), ())).bind fun z7 =>
   cond (!(decide (z7.2.1 = 0))) (some (([], [], ()), z7.2.1, ()))
   (
   (S.mat_Near (z6.1, bits, ())).bind fun z8 =>
   cond (!(decide (z8.2.1 = 0))) (some (([], [], ()), z8.2.1, ()))
   (
   (S.series_Terms (bits, ())).bind fun z9 =>
   (S.series_sums (z8.1, ((z7.1.1.1, z7.1.1.2.1, ()), z7.1.2.1, ()), z9.1, ((z9.2.1.1.1, z9.2.1.1.2.1, ()), z9.2.1.2.1, ()), bits, ())).bind fun z10 =>
   some ((z10.1.1, z10.1.2.1, ()), z10.2.1, ())))))

def S.series_small (x : (List (List RT)) × RT × Int × Int × Unit) : Option (((List (List SP)) × (List (List SP)) × Unit) × Int × Unit) := L.series_small x.1 x.2.1 x.2.2.1 x.2.2.2.1
/-- series_halves: one round of loop 0. -/
def series_halves_s0 (κ0 : Bool → (List Int) → (List Int) → Bool → (List Int) → (List Int) → Bool → (List Int) → (List Int) → Int → Option (Int × RT × Int × Unit)) (x_0 : Bool) (x_1 : List Int) (x_2 : List Int) (t3_0 : Bool) (t3_1 : List Int) (t3_2 : List Int) (half_0 : Bool) (half_1 : List Int) (half_2 : List Int) (t10 : Int) : Option (Int × RT × Int × Unit) :=
  cond (decide (t10 < 65))
   (
   (S.ratio_Compare (((x_0, x_1, ()), x_2, ()), ((half_0, half_1, ()), half_2, ()), ())).bind fun z2 =>
   cond (!(decide (z2.2.1 = 0))) (some (0, ((x_0, x_1, ()), x_2, ()), z2.2.1, ()))
   (
   cond (decide (z2.1 ≤ 0)) (some (t10, ((x_0, x_1, ()), x_2, ()), 0, ()))
   (
   (S.ratio_Mul (((x_0, x_1, ()), x_2, ()), ((half_0, half_1, ()), half_2, ()), ())).bind fun z3 =>
   cond (!(decide (z3.2.1 = 0))) (some (0, ((z3.1.1.1, z3.1.1.2.1, ()), z3.1.2.1, ()), z3.2.1, ()))
   (
   κ0 z3.1.1.1 z3.1.1.2.1 z3.1.2.1 t3_0 t3_1 t3_2 half_0 half_1 half_2 (IntKind.i64.wrap (t10 + 1)))))) (some (0, ((x_0, x_1, ()), x_2, ()), 1, ()))

def series_halves_l0 (K : Nat) : Nat → Bool → (List Int) → (List Int) → Bool → (List Int) → (List Int) → Bool → (List Int) → (List Int) → Int → Option (Int × RT × Int × Unit)
  | 0, _, _, _, _, _, _, _, _, _, _ => none
  | n + 1, x_0, x_1, x_2, t3_0, t3_1, t3_2, half_0, half_1, half_2, t10 => series_halves_s0 (series_halves_l0 K n) x_0 x_1 x_2 t3_0 t3_1 t3_2 half_0 half_1 half_2 t10

/-- series.halves -/
def series_halves_b (I0 : Bool → (List Int) → (List Int) → Bool → (List Int) → (List Int) → Bool → (List Int) → (List Int) → Int → Option (Int × RT × Int × Unit)) (x : RT) : Option (Int × RT × Int × Unit) :=
  (S.ratio_Of (1, 2, ())).bind fun z1 =>
  I0 x.1.1 x.1.2.1 x.2.1 false [] [] z1.1.1.1 z1.1.1.2.1 z1.1.2.1 0

def series_halves (K : Nat) (x : RT) : Option (Int × RT × Int × Unit) := series_halves_b (series_halves_l0 K K) x

def S.series_halves (x : RT × Unit) : Option (Int × RT × Int × Unit) := L.series_halves 100 x.1
/-- mat_Norm: one round of loop 1. -/
def mat_Norm_s1 (κ0 : Bool → (List Int) → (List Int) → Bool → (List Int) → (List Int) → (List (List RT)) → Int → Int → Option (RT × Int × Unit)) (κ1 : Bool → (List Int) → (List Int) → Bool → (List Int) → (List Int) → Bool → (List Int) → (List Int) → (List (List RT)) → Int → Int → (List RT) → Int → Int → Option (RT × Int × Unit)) (t2_0 : Bool) (t2_1 : List Int) (t2_2 : List Int) (most_0 : Bool) (most_1 : List Int) (most_2 : List Int) (all_0 : Bool) (all_1 : List Int) (all_2 : List Int) (t14 : List (List RT)) (t15 : Int) (t16 : Int) (t21 : List RT) (t22 : Int) (t23 : Int) : Option (RT × Int × Unit) :=
  cond (decide (t23 < t22))
   (
   cond (decide (0 ≤ t23))
   (
   cond (decide (t23 < (t21.length : Int)))
   (
   let z4 := t21.getD t23.toNat ((false, ([], ())), ([], ()))
   (S.ratio_Abs (((z4.1.1, z4.1.2.1, ()), z4.2.1, ()), ())).bind fun z5 =>
   (S.ratio_Add (((all_0, all_1, ()), all_2, ()), ((z5.1.1.1, z5.1.1.2.1, ()), z5.1.2.1, ()), ())).bind fun z6 =>
   cond (!(decide (z6.2.1 = 0)))
   (
   (S.ratio_Zero (())).bind fun z7 =>
   some (((z7.1.1.1, z7.1.1.2.1, ()), z7.1.2.1, ()), z6.2.1, ()))
   (
   κ1 t2_0 t2_1 t2_2 most_0 most_1 most_2 z6.1.1.1 z6.1.1.2.1 z6.1.2.1 t14 t15 t16 t21 t22 (IntKind.i64.wrap (t23 + 1)))) none) none)
   (
   (S.ratio_Compare (((all_0, all_1, ()), all_2, ()), ((most_0, most_1, ()), most_2, ()), ())).bind fun z9 =>
   cond (!(decide (z9.2.1 = 0)))
   (
   (S.ratio_Zero (())).bind fun z10 =>
   some (((z10.1.1.1, z10.1.1.2.1, ()), z10.1.2.1, ()), z9.2.1, ()))
   (
   cond (decide (0 < z9.1)) (κ0 t2_0 t2_1 t2_2 all_0 all_1 all_2 t14 t15 (IntKind.i64.wrap (t16 + 1))) (κ0 t2_0 t2_1 t2_2 most_0 most_1 most_2 t14 t15 (IntKind.i64.wrap (t16 + 1)))))

def mat_Norm_l1 (K : Nat) (κ0 : Bool → (List Int) → (List Int) → Bool → (List Int) → (List Int) → (List (List RT)) → Int → Int → Option (RT × Int × Unit)) : Nat → Bool → (List Int) → (List Int) → Bool → (List Int) → (List Int) → Bool → (List Int) → (List Int) → (List (List RT)) → Int → Int → (List RT) → Int → Int → Option (RT × Int × Unit)
  | 0, _, _, _, _, _, _, _, _, _, _, _, _, _, _, _ => none
  | n + 1, t2_0, t2_1, t2_2, most_0, most_1, most_2, all_0, all_1, all_2, t14, t15, t16, t21, t22, t23 => mat_Norm_s1 κ0 (mat_Norm_l1 K κ0 n) t2_0 t2_1 t2_2 most_0 most_1 most_2 all_0 all_1 all_2 t14 t15 t16 t21 t22 t23

/-- mat_Norm: one round of loop 0. -/
def mat_Norm_s0 (I1 : Bool → (List Int) → (List Int) → Bool → (List Int) → (List Int) → Bool → (List Int) → (List Int) → (List (List RT)) → Int → Int → (List RT) → Int → Int → Option (RT × Int × Unit)) (κ0 : Bool → (List Int) → (List Int) → Bool → (List Int) → (List Int) → (List (List RT)) → Int → Int → Option (RT × Int × Unit)) (t2_0 : Bool) (t2_1 : List Int) (t2_2 : List Int) (most_0 : Bool) (most_1 : List Int) (most_2 : List Int) (t14 : List (List RT)) (t15 : Int) (t16 : Int) : Option (RT × Int × Unit) :=
  cond (decide (t16 < t15))
   (
   cond (decide (0 ≤ t16))
   (
   cond (decide (t16 < (t14.length : Int)))
   (
   let z2 := t14.getD t16.toNat []
   (S.ratio_Zero (())).bind fun z3 =>
   I1 t2_0 t2_1 t2_2 most_0 most_1 most_2 z3.1.1.1 z3.1.1.2.1 z3.1.2.1 t14 t15 t16 z2 (z2.length : Int) 0) none) none) (some (((most_0, most_1, ()), most_2, ()), 0, ()))

def mat_Norm_l0 (K : Nat) : Nat → Bool → (List Int) → (List Int) → Bool → (List Int) → (List Int) → (List (List RT)) → Int → Int → Option (RT × Int × Unit)
  | 0, _, _, _, _, _, _, _, _, _ => none
  | n + 1, t2_0, t2_1, t2_2, most_0, most_1, most_2, t14, t15, t16 => mat_Norm_s0 (mat_Norm_l1 K (mat_Norm_l0 K n) K) (mat_Norm_l0 K n) t2_0 t2_1 t2_2 most_0 most_1 most_2 t14 t15 t16

/-- mat.Norm -/
def mat_Norm_b (I0 : Bool → (List Int) → (List Int) → Bool → (List Int) → (List Int) → (List (List RT)) → Int → Int → Option (RT × Int × Unit)) (a : List (List RT)) : Option (RT × Int × Unit) :=
  (S.ratio_Zero (())).bind fun z1 =>
  I0 false [] [] z1.1.1.1 z1.1.1.2.1 z1.1.2.1 a (a.length : Int) 0

def mat_Norm (K : Nat) (a : List (List RT)) : Option (RT × Int × Unit) := mat_Norm_b (mat_Norm_l0 K K) a

def S.mat_Norm (x : (List (List RT)) × Unit) : Option (RT × Int × Unit) := L.mat_Norm 100 x.1
/-- mat_Check: one round of loop 0. -/
def mat_Check_s0 (κ0 : Int → (List (List RT)) → Int → Int → Option (Int × Unit)) (cols : Int) (t22 : List (List RT)) (t23 : Int) (t24 : Int) : Option (Int × Unit) :=
  cond (decide (t24 < t23))
   (
   cond (decide (0 ≤ t24))
   (
   cond (decide (t24 < (t22.length : Int)))
   (
   (S.vec_Check ((t22.getD t24.toNat []), cols, ())).bind fun z2 =>
   cond (!(decide (z2.1 = 0))) (some (z2.1, ())) (κ0 cols t22 t23 (IntKind.i64.wrap (t24 + 1)))) none) none) (some (0, ()))

def mat_Check_l0 (K : Nat) : Nat → Int → (List (List RT)) → Int → Int → Option (Int × Unit)
  | 0, _, _, _, _ => none
  | n + 1, cols, t22, t23, t24 => mat_Check_s0 (mat_Check_l0 K n) cols t22 t23 t24

/-- mat.Check -/
def mat_Check_b (I0 : Int → (List (List RT)) → Int → Int → Option (Int × Unit)) (a : List (List RT)) (rows : Int) (cols : Int) : Option (Int × Unit) :=
  cond (decide (rows < 0)) (some (20, ()))
   (
   cond (decide (16 < rows)) (some (20, ()))
   (
   cond (!(decide ((a.length : Int) = rows))) (some (20, ())) (I0 cols a (a.length : Int) 0)))

def mat_Check (K : Nat) (a : List (List RT)) (rows : Int) (cols : Int) : Option (Int × Unit) := mat_Check_b (mat_Check_l0 K K) a rows cols

def S.mat_Check (x : (List (List RT)) × Int × Int × Unit) : Option (Int × Unit) := L.mat_Check 100 x.1 x.2.1 x.2.2.1
/-- series_Make: one round of loop 0. -/
def series_Make_s0 (κ0 : Int → (List (List SP)) → (List (List SP)) → Int → (List (List SP)) → (List (List SP)) → Int → Int → Option (((List (List SP)) × (List (List SP)) × Unit) × Int × Unit)) (bits : Int) (t6_0 : List (List SP)) (t6_1 : List (List SP)) (e : Int) (p_0 : List (List SP)) (p_1 : List (List SP)) (t74 : Int) (t75 : Int) : Option (((List (List SP)) × (List (List SP)) × Unit) × Int × Unit) :=
  cond (decide (t75 < t74))
   (
   cond (!(decide (e = 0))) (some (([], [], ()), e, ()))
   (
   (S.series_Twice ((p_0, p_1, ()), bits, ())).bind fun z7 =>
   κ0 bits t6_0 t6_1 z7.2.1 z7.1.1 z7.1.2.1 t74 (IntKind.i64.wrap (t75 + 1)))) (some ((p_0, p_1, ()), e, ()))

def series_Make_l0 (K : Nat) : Nat → Int → (List (List SP)) → (List (List SP)) → Int → (List (List SP)) → (List (List SP)) → Int → Int → Option (((List (List SP)) × (List (List SP)) × Unit) × Int × Unit)
  | 0, _, _, _, _, _, _, _, _ => none
  | n + 1, bits, t6_0, t6_1, e, p_0, p_1, t74, t75 => series_Make_s0 (series_Make_l0 K n) bits t6_0 t6_1 e p_0 p_1 t74 t75

/-- series.Make -/
def series_Make_b (I0 : Int → (List (List SP)) → (List (List SP)) → Int → (List (List SP)) → (List (List SP)) → Int → Int → Option (((List (List SP)) × (List (List SP)) × Unit) × Int × Unit)) (a : List (List RT)) (t : RT) (bits : Int) : Option (((List (List SP)) × (List (List SP)) × Unit) × Int × Unit) :=
  cond (decide (bits < 8)) (some (([], [], ()), 1, ()))
   (
   cond (decide (512 < bits)) (some (([], [], ()), 1, ()))
   (
   (S.ratio_Sign (((t.1.1, t.1.2.1, ()), t.2.1, ()), ())).bind fun z1 =>
   cond (decide (z1.1 < 0)) (some (([], [], ()), 1, ()))
   (
   (S.mat_Check (a, (a.length : Int), (a.length : Int), ())).bind fun z2 =>
   cond (!(decide (z2.1 = 0))) (some (([], [], ()), z2.1, ()))
   (
   (S.mat_Scale (a, ((t.1.1, t.1.2.1, ()), t.2.1, ()), ())).bind fun z3 =>
   cond (!(decide (z3.2.1 = 0))) (some (([], [], ()), z3.2.1, ()))
   (
   (S.mat_Norm (z3.1, ())).bind fun z4 =>
   cond (!(decide (z4.2.1 = 0))) (some (([], [], ()), z4.2.1, ()))
   (
   (S.series_halves (((z4.1.1.1, z4.1.1.2.1, ()), z4.1.2.1, ()), ())).bind fun z5 =>
   cond (!(decide (z5.2.2.1 = 0))) (some (([], [], ()), z5.2.2.1, ()))
   (
   (S.series_small (z3.1, ((t.1.1, t.1.2.1, ()), t.2.1, ()), z5.1, bits, ())).bind fun z6 =>
   I0 bits [] [] z6.2.1 z6.1.1 z6.1.2.1 z5.1 0)))))))

def series_Make (K : Nat) (a : List (List RT)) (t : RT) (bits : Int) : Option (((List (List SP)) × (List (List SP)) × Unit) × Int × Unit) := series_Make_b (series_Make_l0 K K) a t bits

def S.series_Make (x : (List (List RT)) × RT × Int × Unit) : Option (((List (List SP)) × (List (List SP)) × Unit) × Int × Unit) := L.series_Make 100 x.1 x.2.1 x.2.2.1
/-- grow.check -/
def grow_check (r : RT) (bits : Int) : Option (Int × Unit) :=
  cond (decide (bits < 8)) (some (1, ()))
   (
   cond (decide (512 < bits)) (some (1, ()))
   (
   (S.ratio_Sign (((r.1.1, r.1.2.1, ()), r.2.1, ()), ())).bind fun z1 =>
   cond (decide (z1.1 < 0)) (some (1, ()))
   (
   (S.ratio_Of (32, 1, ())).bind fun z2 =>
   (S.ratio_Compare (((r.1.1, r.1.2.1, ()), r.2.1, ()), ((z2.1.1.1, z2.1.1.2.1, ()), z2.1.2.1, ()), ())).bind fun z3 =>
   cond (decide (z3.2.1 = 0))
   (
   cond (decide (0 < z3.1)) (some (1, ())) (some (z3.2.1, ()))) (some (z3.2.1, ())))))

def S.grow_check (x : RT × Int × Unit) : Option (Int × Unit) := L.grow_check x.1 x.2.1
/-- grow.pair -/
def grow_pair (r : RT) (bits : Int) : Option (((List (List SP)) × (List (List SP)) × Unit) × Int × Unit) :=
  (S.grow_check (((r.1.1, r.1.2.1, ()), r.2.1, ()), bits, ())).bind fun z1 =>
  cond (!(decide (z1.1 = 0))) (some (([], [], ()), z1.1, ()))
   (
   (S.ratio_Of (1, 1, ())).bind fun z2 =>
   (S.series_Make ([[((r.1.1, r.1.2.1, ()), r.2.1, ())]], ((z2.1.1.1, z2.1.1.2.1, ()), z2.1.2.1, ()), bits, ())).bind fun z3 =>
   some ((z3.1.1, z3.1.2.1, ()), z3.2.1, ()))

def S.grow_pair (x : RT × Int × Unit) : Option (((List (List SP)) × (List (List SP)) × Unit) × Int × Unit) := L.grow_pair x.1 x.2.1
/-- grow.One -/
def grow_One (r : RT) (bits : Int) : Option (SP × Int × Unit) :=
  (S.grow_pair (((r.1.1, r.1.2.1, ()), r.2.1, ()), bits, ())).bind fun z1 =>
  cond (!(decide (z1.2.1 = 0))) (some ((((false, [], ()), 0, ()), ((false, [], ()), 0, ()), ()), z1.2.1, ()))
   (
   cond (decide (0 < (z1.1.2.1.length : Int)))
   (
   let z2 := z1.1.2.1.getD 0 []
   cond (decide (0 < (z2.length : Int)))
   (
   let z3 := z2.getD 0 (((false, ([], ())), (0, ())), (((false, ([], ())), (0, ())), ()))
   some ((((z3.1.1.1, z3.1.1.2.1, ()), z3.1.2.1, ()), ((z3.2.1.1.1, z3.2.1.1.2.1, ()), z3.2.1.2.1, ()), ()), 0, ())) none) none)

def S.grow_One (x : RT × Int × Unit) : Option (SP × Int × Unit) := L.grow_One x.1 x.2.1
/-- grow.Exp -/
def grow_Exp (r : RT) (bits : Int) : Option (SP × Int × Unit) :=
  (S.grow_pair (((r.1.1, r.1.2.1, ()), r.2.1, ()), bits, ())).bind fun z1 =>
  cond (!(decide (z1.2.1 = 0))) (some ((((false, [], ()), 0, ()), ((false, [], ()), 0, ()), ()), z1.2.1, ()))
   (
   cond (decide (0 < (z1.1.1.length : Int)))
   (
   let z2 := z1.1.1.getD 0 []
   cond (decide (0 < (z2.length : Int)))
   (
   let z3 := z2.getD 0 (((false, ([], ())), (0, ())), (((false, ([], ())), (0, ())), ()))
   some ((((z3.1.1.1, z3.1.1.2.1, ()), z3.1.2.1, ()), ((z3.2.1.1.1, z3.2.1.1.2.1, ()), z3.2.1.2.1, ()), ()), 0, ())) none) none)

def S.grow_Exp (x : RT × Int × Unit) : Option (SP × Int × Unit) := L.grow_Exp x.1 x.2.1
/-- grow.Rate -/
def grow_Rate (a : List (List RT)) (t : RT) : Option (RT × Int × Unit) :=
  (S.mat_Norm (a, ())).bind fun z1 =>
  cond (!(decide (z1.2.1 = 0)))
   (
   (S.ratio_Zero (())).bind fun z2 =>
   some (((z2.1.1.1, z2.1.1.2.1, ()), z2.1.2.1, ()), z1.2.1, ()))
   (
   (S.ratio_Mul (((z1.1.1.1, z1.1.1.2.1, ()), z1.1.2.1, ()), ((t.1.1, t.1.2.1, ()), t.2.1, ()), ())).bind fun z3 =>
   some (((z3.1.1.1, z3.1.1.2.1, ()), z3.1.2.1, ()), z3.2.1, ()))

def S.grow_Rate (x : (List (List RT)) × RT × Unit) : Option (RT × Int × Unit) := L.grow_Rate x.1 x.2.1
end Go.L

/-
  The functions of the seat, each by its equation.
  No condition beyond those that each theorem names.
-/
import Derived.Test.YtgckjlbdeopfbaaDoorI
import Derived.Test.YtgckjlbdeopfbaaDoorB
import Derived.Test.YtgckjlbdeopfbaaDoorE
import Derived.Test.YtgckjlbdeopfbaaDoorProg

/-! LSeat3 -/
namespace Go.L
open Go.PM Go.Proofs
set_option linter.unusedVariables false
set_option maxRecDepth 100000
noncomputable def T : Nat → Option TRow := fun i => bif Nat.beq i 3 then some ⟨(.int .i64), .int .i64, 8⟩ else bif Nat.beq i 4 then some ⟨.bool, .bool, 1⟩ else bif Nat.beq i 5 then some ⟨(.int .u8), .int .u8, 1⟩ else bif Nat.beq i 9 then some ⟨.str, .str, 16⟩ else bif Nat.beq i 23 then some ⟨(.sl (.int .u32)), .sl 31, 24⟩ else bif Nat.beq i 24 then some ⟨(.sl (.int .u32)), .sl 31, 24⟩ else bif Nat.beq i 28 then some ⟨(.sl (.int .i64)), .sl 3, 24⟩ else bif Nat.beq i 31 then some ⟨(.int .u32), .int .u32, 4⟩ else bif Nat.beq i 34 then some ⟨(.sl (.sl (.int .u32))), .sl 24, 24⟩ else bif Nat.beq i 42 then some ⟨(.int .u64), .int .u64, 8⟩ else bif Nat.beq i 54 then some ⟨(.sl (.int .u8)), .sl 5, 24⟩ else none
theorem row3 : RowOK Tryd.prog 3 ⟨(.int .i64), .int .i64, 8⟩ := RowOK.of (by kernel_rfl) (by kernel_rfl) Tryd.underlying3 (by kernel_rfl)
theorem row4 : RowOK Tryd.prog 4 ⟨.bool, .bool, 1⟩ := RowOK.of (by kernel_rfl) (by kernel_rfl) Tryd.underlying4 (by kernel_rfl)
theorem row5 : RowOK Tryd.prog 5 ⟨(.int .u8), .int .u8, 1⟩ := RowOK.of (by kernel_rfl) (by kernel_rfl) Tryd.underlying5 (by kernel_rfl)
theorem row9 : RowOK Tryd.prog 9 ⟨.str, .str, 16⟩ := RowOK.of (by kernel_rfl) (by kernel_rfl) Tryd.underlying9 (by kernel_rfl)
theorem row23 : RowOK Tryd.prog 23 ⟨(.sl (.int .u32)), .sl 31, 24⟩ := RowOK.of (by kernel_rfl) (by kernel_rfl) Tryd.underlying23 (by kernel_rfl)
theorem row24 : RowOK Tryd.prog 24 ⟨(.sl (.int .u32)), .sl 31, 24⟩ := RowOK.of (by kernel_rfl) (by kernel_rfl) Tryd.underlying24 (by kernel_rfl)
theorem row28 : RowOK Tryd.prog 28 ⟨(.sl (.int .i64)), .sl 3, 24⟩ := RowOK.of (by kernel_rfl) (by kernel_rfl) Tryd.underlying28 (by kernel_rfl)
theorem row31 : RowOK Tryd.prog 31 ⟨(.int .u32), .int .u32, 4⟩ := RowOK.of (by kernel_rfl) (by kernel_rfl) Tryd.underlying31 (by kernel_rfl)
theorem row34 : RowOK Tryd.prog 34 ⟨(.sl (.sl (.int .u32))), .sl 24, 24⟩ := RowOK.of (by kernel_rfl) (by kernel_rfl) Tryd.underlying34 (by kernel_rfl)
theorem row42 : RowOK Tryd.prog 42 ⟨(.int .u64), .int .u64, 8⟩ := RowOK.of (by kernel_rfl) (by kernel_rfl) Tryd.underlying42 (by kernel_rfl)
theorem row54 : RowOK Tryd.prog 54 ⟨(.sl (.int .u8)), .sl 5, 24⟩ := RowOK.of (by kernel_rfl) (by kernel_rfl) Tryd.underlying54 (by kernel_rfl)
theorem T_ok : TypesOK Tryd.prog T := (types_cons row3 (types_cons row4 (types_cons row5 (types_cons row9 (types_cons row23 (types_cons row24 (types_cons row28 (types_cons row31 (types_cons row34 (types_cons row42 (types_cons row54 types_nil)))))))))))
theorem mixed : Tryd.prog.follows .mixedOrders = true := by kernel_rfl
noncomputable def Γ_limbs_trim : Env := { T := T, Φ := fun i => none, ann := fun i => bif Nat.beq i 2 then [(0, .c (.data (.int .u32))), (3, .c .sc)] else [], ord := fun i => [] }
noncomputable def limbs_trim_c : Code := (Tryd.f33.body).getD .skip
noncomputable def limbs_trim_fin := finish Γ_limbs_trim Tryd.f33.results.toList (.pair (.sl (.int .u32)) .unit) []
noncomputable def limbs_trim_mk0 (a : List Int) (n2 : Int) : St := { t := (upd (upd (fun _ => .undef) 0 (.one (.sl (.int .u32) a))) 3 (.one (.int .i64 n2))), m := (upd (fun _ => .free) 0 .held), nx := 1000000, n := 22 }
theorem limbs_trim_loop0 (K : Nat) : ∀ (n : Nat) (a : List Int) (n2 : Int), loopAt Γ_limbs_trim K [.r, .r, .l, .b] limbs_trim_c [] limbs_trim_fin (fun _ _ => none) limbs_trim_fin n (limbs_trim_mk0 a n2) = limbs_trim_l0 K n a n2 := by
  intro n
  induction n with
  | zero => intro a n2; kernel_rfl
  | succ n ih =>
    intro a n2
    have e : loopAt Γ_limbs_trim K [.r, .r, .l, .b] limbs_trim_c [] limbs_trim_fin (fun _ _ => none) limbs_trim_fin (n + 1) (limbs_trim_mk0 a n2) = limbs_trim_s0 (fun (a : List Int) (n2 : Int) => loopAt Γ_limbs_trim K [.r, .r, .l, .b] limbs_trim_c [] limbs_trim_fin (fun _ _ => none) limbs_trim_fin n (limbs_trim_mk0 a n2)) a n2 := by kernel_rfl
    rw [e]
    rw [show (fun (a : List Int) (n2 : Int) => loopAt Γ_limbs_trim K [.r, .r, .l, .b] limbs_trim_c [] limbs_trim_fin (fun _ _ => none) limbs_trim_fin n (limbs_trim_mk0 a n2)) = _ from funext fun a => funext fun n2 => ih a n2]
    rfl
theorem limbs_trim_eq (K : Nat) (a : List Int) : exF Γ_limbs_trim K Tryd.f33 (.pair (.sl (.int .u32)) .unit) (.pair (.sl (.int .u32)) .unit) [] (a, ()) = limbs_trim K a := by
  have e : exF Γ_limbs_trim K Tryd.f33 (.pair (.sl (.int .u32)) .unit) (.pair (.sl (.int .u32)) .unit) [] (a, ()) = limbs_trim_b (fun (a : List Int) (n2 : Int) => loopAt Γ_limbs_trim K [.r, .r, .l, .b] limbs_trim_c [] limbs_trim_fin (fun _ _ => none) limbs_trim_fin K (limbs_trim_mk0 a n2)) a := by kernel_rfl
  rw [e]
  rw [show (fun (a : List Int) (n2 : Int) => loopAt Γ_limbs_trim K [.r, .r, .l, .b] limbs_trim_c [] limbs_trim_fin (fun _ _ => none) limbs_trim_fin K (limbs_trim_mk0 a n2)) = _ from funext fun a => funext fun n2 => limbs_trim_loop0 K K a n2]
  rfl
theorem env_limbs_trim : EnvOK Tryd.prog G Γ_limbs_trim := ⟨T_ok, (phi_nil : PhiOK Tryd.prog G Γ_limbs_trim.Φ), fun _ _ h => (by cases h), mixed⟩
theorem fn_limbs_trim : FnOK Tryd.prog G 33 ⟨(.pair (.sl (.int .u32)) .unit), (.pair (.sl (.int .u32)) .unit), [], S.limbs_trim, none⟩ := FnOK.of env_limbs_trim Tryd.func33 (by kernel_rfl) (by kernel_rfl) (of_decide_eq_true (by kernel_rfl)) (fun x y h => by obtain ⟨K, hK⟩ := limbs_trim_ok x y h; exact ⟨K, (limbs_trim_eq K x.1).trans hK⟩)

noncomputable def Γ_limbs_fits : Env := { T := T, Φ := fun i => bif Nat.beq i 33 then some ⟨(.pair (.sl (.int .u32)) .unit), (.pair (.sl (.int .u32)) .unit), [], S.limbs_trim, none⟩ else none, ann := fun i => [], ord := fun i => [] }
theorem limbs_fits_eq (K : Nat) (a : List Int) : exF Γ_limbs_fits K Tryd.f29 (.pair (.sl (.int .u32)) .unit) (.pair (.sl (.int .u32)) (.pair (.int .i64) .unit)) [] (a, ()) = limbs_fits a := by kernel_rfl
theorem env_limbs_fits : EnvOK Tryd.prog G Γ_limbs_fits := ⟨T_ok, ((phi_cons fn_limbs_trim phi_nil) : PhiOK Tryd.prog G Γ_limbs_fits.Φ), fun _ _ h => (by cases h), mixed⟩
theorem fn_limbs_fits : FnOK Tryd.prog G 29 ⟨(.pair (.sl (.int .u32)) .unit), (.pair (.sl (.int .u32)) (.pair (.int .i64) .unit)), [], S.limbs_fits, none⟩ := FnOK.of env_limbs_fits Tryd.func29 (by kernel_rfl) (by kernel_rfl) (of_decide_eq_true (by kernel_rfl)) (fun x y h => ⟨0, (limbs_fits_eq 0 x.1).trans h⟩)

noncomputable def Γ_limbs_Mul : Env := { T := T, Φ := fun i => bif Nat.beq i 29 then some ⟨(.pair (.sl (.int .u32)) .unit), (.pair (.sl (.int .u32)) (.pair (.int .i64) .unit)), [], S.limbs_fits, none⟩ else none, ann := fun i => bif Nat.beq i 7 then [(1, .c (.data (.int .u32))), (6, .c (.own 100 31 (.int .u32))), (32, .c (.data (.int .u32))), (33, .c .sc), (34, .c .sc)] else bif Nat.beq i 11 then [(1, .c (.data (.int .u32))), (6, .c (.own 100 31 (.int .u32))), (7, .c .sc), (8, .c .sc), (9, .c .sc), (32, .c (.data (.int .u32))), (33, .c .sc), (34, .c .sc), (39, .c (.data (.int .u32))), (40, .c .sc), (41, .c .sc)] else [], ord := fun i => [] }
noncomputable def limbs_Mul_c : Code := (Tryd.f16.body).getD .skip
noncomputable def limbs_Mul_fin := finish Γ_limbs_Mul Tryd.f16.results.toList (.pair (.sl (.int .u32)) (.pair (.int .i64) .unit)) []
noncomputable def limbs_Mul_mk0 (b : List Int) (out : List Int) (t32 : List Int) (t33 : Int) (t34 : Int) : St := { t := (upd (upd (upd (upd (upd (fun _ => .undef) 1 (.one (.sl (.int .u32) b))) 6 (.one (.own 100))) 32 (.one (.sl (.int .u32) t32))) 33 (.one (.int .i64 t33))) 34 (.one (.int .i64 t34))), m := (upd (upd (fun _ => .free) 0 .held) 100 (.row true 31 (.int .u32) out)), nx := 1000000, n := 84 }
noncomputable def limbs_Mul_mk1 (b : List Int) (out : List Int) (i : Int) (x : Int) (carry : Int) (t32 : List Int) (t33 : Int) (t34 : Int) (t39 : List Int) (t40 : Int) (t41 : Int) : St := { t := (upd (upd (upd (upd (upd (upd (upd (upd (upd (upd (upd (fun _ => .undef) 1 (.one (.sl (.int .u32) b))) 6 (.one (.own 100))) 7 (.one (.int .i64 i))) 8 (.one (.int .u32 x))) 9 (.one (.int .u64 carry))) 32 (.one (.sl (.int .u32) t32))) 33 (.one (.int .i64 t33))) 34 (.one (.int .i64 t34))) 39 (.one (.sl (.int .u32) t39))) 40 (.one (.int .i64 t40))) 41 (.one (.int .i64 t41))), m := (upd (upd (fun _ => .free) 0 .held) 100 (.row true 31 (.int .u32) out)), nx := 1000000, n := 84 }
theorem limbs_Mul_loop1 (K : Nat) (κ0 : St → Option (Den (.pair (.sl (.int .u32)) (.pair (.int .i64) .unit)))) : ∀ (n : Nat) (b : List Int) (out : List Int) (i : Int) (x : Int) (carry : Int) (t32 : List Int) (t33 : Int) (t34 : Int) (t39 : List Int) (t40 : Int) (t41 : Int), loopAt Γ_limbs_Mul K [.r, .r, .r, .r, .l, .r, .b, .c, .r, .r, .l, .b, .r, .r, .l, .r, .b] limbs_Mul_c [fun st => mask [(1, .c (.data (.int .u32))), (6, .c (.own 100 31 (.int .u32))), (32, .c (.data (.int .u32))), (33, .c .sc), (34, .c .sc)] 1000000 st (κ0)] limbs_Mul_fin (fun _ _ => none) limbs_Mul_fin n (limbs_Mul_mk1 b out i x carry t32 t33 t34 t39 t40 t41) = limbs_Mul_l1 K (fun (b : List Int) (out : List Int) (t32 : List Int) (t33 : Int) (t34 : Int) => κ0 (limbs_Mul_mk0 b out t32 t33 t34)) n b out i x carry t32 t33 t34 t39 t40 t41 := by
  intro n
  induction n with
  | zero => intro b out i x carry t32 t33 t34 t39 t40 t41; kernel_rfl
  | succ n ih =>
    intro b out i x carry t32 t33 t34 t39 t40 t41
    have e : loopAt Γ_limbs_Mul K [.r, .r, .r, .r, .l, .r, .b, .c, .r, .r, .l, .b, .r, .r, .l, .r, .b] limbs_Mul_c [fun st => mask [(1, .c (.data (.int .u32))), (6, .c (.own 100 31 (.int .u32))), (32, .c (.data (.int .u32))), (33, .c .sc), (34, .c .sc)] 1000000 st (κ0)] limbs_Mul_fin (fun _ _ => none) limbs_Mul_fin (n + 1) (limbs_Mul_mk1 b out i x carry t32 t33 t34 t39 t40 t41) = limbs_Mul_s1 (fun (b : List Int) (out : List Int) (t32 : List Int) (t33 : Int) (t34 : Int) => κ0 (limbs_Mul_mk0 b out t32 t33 t34)) (fun (b : List Int) (out : List Int) (i : Int) (x : Int) (carry : Int) (t32 : List Int) (t33 : Int) (t34 : Int) (t39 : List Int) (t40 : Int) (t41 : Int) => loopAt Γ_limbs_Mul K [.r, .r, .r, .r, .l, .r, .b, .c, .r, .r, .l, .b, .r, .r, .l, .r, .b] limbs_Mul_c [fun st => mask [(1, .c (.data (.int .u32))), (6, .c (.own 100 31 (.int .u32))), (32, .c (.data (.int .u32))), (33, .c .sc), (34, .c .sc)] 1000000 st (κ0)] limbs_Mul_fin (fun _ _ => none) limbs_Mul_fin n (limbs_Mul_mk1 b out i x carry t32 t33 t34 t39 t40 t41)) b out i x carry t32 t33 t34 t39 t40 t41 := by kernel_rfl
    rw [e]
    rw [show (fun (b : List Int) (out : List Int) (i : Int) (x : Int) (carry : Int) (t32 : List Int) (t33 : Int) (t34 : Int) (t39 : List Int) (t40 : Int) (t41 : Int) => loopAt Γ_limbs_Mul K [.r, .r, .r, .r, .l, .r, .b, .c, .r, .r, .l, .b, .r, .r, .l, .r, .b] limbs_Mul_c [fun st => mask [(1, .c (.data (.int .u32))), (6, .c (.own 100 31 (.int .u32))), (32, .c (.data (.int .u32))), (33, .c .sc), (34, .c .sc)] 1000000 st (κ0)] limbs_Mul_fin (fun _ _ => none) limbs_Mul_fin n (limbs_Mul_mk1 b out i x carry t32 t33 t34 t39 t40 t41)) = _ from funext fun b => funext fun out => funext fun i => funext fun x => funext fun carry => funext fun t32 => funext fun t33 => funext fun t34 => funext fun t39 => funext fun t40 => funext fun t41 => ih b out i x carry t32 t33 t34 t39 t40 t41]
    rfl
theorem limbs_Mul_loop0 (K : Nat) : ∀ (n : Nat) (b : List Int) (out : List Int) (t32 : List Int) (t33 : Int) (t34 : Int), loopAt Γ_limbs_Mul K [.r, .r, .r, .r, .l, .r, .b] limbs_Mul_c [] limbs_Mul_fin (fun _ _ => none) limbs_Mul_fin n (limbs_Mul_mk0 b out t32 t33 t34) = limbs_Mul_l0 K n b out t32 t33 t34 := by
  intro n
  induction n with
  | zero => intro b out t32 t33 t34; kernel_rfl
  | succ n ih =>
    intro b out t32 t33 t34
    have e : loopAt Γ_limbs_Mul K [.r, .r, .r, .r, .l, .r, .b] limbs_Mul_c [] limbs_Mul_fin (fun _ _ => none) limbs_Mul_fin (n + 1) (limbs_Mul_mk0 b out t32 t33 t34) = limbs_Mul_s0 (fun (b : List Int) (out : List Int) (i : Int) (x : Int) (carry : Int) (t32 : List Int) (t33 : Int) (t34 : Int) (t39 : List Int) (t40 : Int) (t41 : Int) => loopAt Γ_limbs_Mul K [.r, .r, .r, .r, .l, .r, .b, .c, .r, .r, .l, .b, .r, .r, .l, .r, .b] limbs_Mul_c [fun st => mask [(1, .c (.data (.int .u32))), (6, .c (.own 100 31 (.int .u32))), (32, .c (.data (.int .u32))), (33, .c .sc), (34, .c .sc)] 1000000 st (loopAt Γ_limbs_Mul K [.r, .r, .r, .r, .l, .r, .b] limbs_Mul_c [] limbs_Mul_fin (fun _ _ => none) limbs_Mul_fin n)] limbs_Mul_fin (fun _ _ => none) limbs_Mul_fin K (limbs_Mul_mk1 b out i x carry t32 t33 t34 t39 t40 t41)) (fun (b : List Int) (out : List Int) (t32 : List Int) (t33 : Int) (t34 : Int) => loopAt Γ_limbs_Mul K [.r, .r, .r, .r, .l, .r, .b] limbs_Mul_c [] limbs_Mul_fin (fun _ _ => none) limbs_Mul_fin n (limbs_Mul_mk0 b out t32 t33 t34)) b out t32 t33 t34 := by kernel_rfl
    rw [e]
    rw [show (fun (b : List Int) (out : List Int) (i : Int) (x : Int) (carry : Int) (t32 : List Int) (t33 : Int) (t34 : Int) (t39 : List Int) (t40 : Int) (t41 : Int) => loopAt Γ_limbs_Mul K [.r, .r, .r, .r, .l, .r, .b, .c, .r, .r, .l, .b, .r, .r, .l, .r, .b] limbs_Mul_c [fun st => mask [(1, .c (.data (.int .u32))), (6, .c (.own 100 31 (.int .u32))), (32, .c (.data (.int .u32))), (33, .c .sc), (34, .c .sc)] 1000000 st (loopAt Γ_limbs_Mul K [.r, .r, .r, .r, .l, .r, .b] limbs_Mul_c [] limbs_Mul_fin (fun _ _ => none) limbs_Mul_fin n)] limbs_Mul_fin (fun _ _ => none) limbs_Mul_fin K (limbs_Mul_mk1 b out i x carry t32 t33 t34 t39 t40 t41)) = _ from funext fun b => funext fun out => funext fun i => funext fun x => funext fun carry => funext fun t32 => funext fun t33 => funext fun t34 => funext fun t39 => funext fun t40 => funext fun t41 => limbs_Mul_loop1 K (loopAt Γ_limbs_Mul K [.r, .r, .r, .r, .l, .r, .b] limbs_Mul_c [] limbs_Mul_fin (fun _ _ => none) limbs_Mul_fin n) K b out i x carry t32 t33 t34 t39 t40 t41]
    rw [show (fun (b : List Int) (out : List Int) (t32 : List Int) (t33 : Int) (t34 : Int) => loopAt Γ_limbs_Mul K [.r, .r, .r, .r, .l, .r, .b] limbs_Mul_c [] limbs_Mul_fin (fun _ _ => none) limbs_Mul_fin n (limbs_Mul_mk0 b out t32 t33 t34)) = _ from funext fun b => funext fun out => funext fun t32 => funext fun t33 => funext fun t34 => ih b out t32 t33 t34]
    rfl
theorem limbs_Mul_eq (K : Nat) (a : List Int) (b : List Int) : exF Γ_limbs_Mul K Tryd.f16 (.pair (.sl (.int .u32)) (.pair (.sl (.int .u32)) .unit)) (.pair (.sl (.int .u32)) (.pair (.int .i64) .unit)) [] (a, b, ()) = limbs_Mul K a b := by
  have e : exF Γ_limbs_Mul K Tryd.f16 (.pair (.sl (.int .u32)) (.pair (.sl (.int .u32)) .unit)) (.pair (.sl (.int .u32)) (.pair (.int .i64) .unit)) [] (a, b, ()) = limbs_Mul_b (fun (b : List Int) (out : List Int) (t32 : List Int) (t33 : Int) (t34 : Int) => loopAt Γ_limbs_Mul K [.r, .r, .r, .r, .l, .r, .b] limbs_Mul_c [] limbs_Mul_fin (fun _ _ => none) limbs_Mul_fin K (limbs_Mul_mk0 b out t32 t33 t34)) a b := by kernel_rfl
  rw [e]
  rw [show (fun (b : List Int) (out : List Int) (t32 : List Int) (t33 : Int) (t34 : Int) => loopAt Γ_limbs_Mul K [.r, .r, .r, .r, .l, .r, .b] limbs_Mul_c [] limbs_Mul_fin (fun _ _ => none) limbs_Mul_fin K (limbs_Mul_mk0 b out t32 t33 t34)) = _ from funext fun b => funext fun out => funext fun t32 => funext fun t33 => funext fun t34 => limbs_Mul_loop0 K K b out t32 t33 t34]
  rfl
theorem env_limbs_Mul : EnvOK Tryd.prog G Γ_limbs_Mul := ⟨T_ok, ((phi_cons fn_limbs_fits phi_nil) : PhiOK Tryd.prog G Γ_limbs_Mul.Φ), fun _ _ h => (by cases h), mixed⟩
theorem fn_limbs_Mul : FnOK Tryd.prog G 16 ⟨(.pair (.sl (.int .u32)) (.pair (.sl (.int .u32)) .unit)), (.pair (.sl (.int .u32)) (.pair (.int .i64) .unit)), [], S.limbs_Mul, none⟩ := FnOK.of env_limbs_Mul Tryd.func16 (by kernel_rfl) (by kernel_rfl) (of_decide_eq_true (by kernel_rfl)) (fun x y h => by obtain ⟨K, hK⟩ := limbs_Mul_ok x y h; exact ⟨K, (limbs_Mul_eq K x.1 x.2.1).trans hK⟩)

noncomputable def Γ_limbs_Of : Env := { T := T, Φ := fun i => bif Nat.beq i 33 then some ⟨(.pair (.sl (.int .u32)) .unit), (.pair (.sl (.int .u32)) .unit), [], S.limbs_trim, none⟩ else none, ann := fun i => [], ord := fun i => [] }
theorem limbs_Of_eq (K : Nat) (n : Int) : exF Γ_limbs_Of K Tryd.f20 (.pair (.int .u64) .unit) (.pair (.sl (.int .u32)) .unit) [] (n, ()) = limbs_Of n := by kernel_rfl
theorem env_limbs_Of : EnvOK Tryd.prog G Γ_limbs_Of := ⟨T_ok, ((phi_cons fn_limbs_trim phi_nil) : PhiOK Tryd.prog G Γ_limbs_Of.Φ), fun _ _ h => (by cases h), mixed⟩
theorem fn_limbs_Of : FnOK Tryd.prog G 20 ⟨(.pair (.int .u64) .unit), (.pair (.sl (.int .u32)) .unit), [], S.limbs_Of, none⟩ := FnOK.of env_limbs_Of Tryd.func20 (by kernel_rfl) (by kernel_rfl) (of_decide_eq_true (by kernel_rfl)) (fun x y h => ⟨0, (limbs_Of_eq 0 x.1).trans h⟩)

noncomputable def Γ_limbs_Add : Env := { T := T, Φ := fun i => bif Nat.beq i 29 then some ⟨(.pair (.sl (.int .u32)) .unit), (.pair (.sl (.int .u32)) (.pair (.int .i64) .unit)), [], S.limbs_fits, none⟩ else none, ann := fun i => bif Nat.beq i 6 then [(0, .c (.data (.int .u32))), (1, .c (.data (.int .u32))), (6, .c (.own 100 31 (.int .u32))), (7, .c .sc), (21, .c (.data (.int .u32))), (22, .c .sc), (23, .c .sc)] else [], ord := fun i => [] }
noncomputable def limbs_Add_c : Code := (Tryd.f47.body).getD .skip
noncomputable def limbs_Add_fin := finish Γ_limbs_Add Tryd.f47.results.toList (.pair (.sl (.int .u32)) (.pair (.int .i64) .unit)) []
noncomputable def limbs_Add_mk0 (a : List Int) (b : List Int) (out : List Int) (carry : Int) (t21 : List Int) (t22 : Int) (t23 : Int) : St := { t := (upd (upd (upd (upd (upd (upd (upd (fun _ => .undef) 0 (.one (.sl (.int .u32) a))) 1 (.one (.sl (.int .u32) b))) 6 (.one (.own 100))) 7 (.one (.int .u64 carry))) 21 (.one (.sl (.int .u32) t21))) 22 (.one (.int .i64 t22))) 23 (.one (.int .i64 t23))), m := (upd (upd (fun _ => .free) 0 .held) 100 (.row true 31 (.int .u32) out)), nx := 1000000, n := 61 }
theorem limbs_Add_loop0 (K : Nat) : ∀ (n : Nat) (a : List Int) (b : List Int) (out : List Int) (carry : Int) (t21 : List Int) (t22 : Int) (t23 : Int), loopAt Γ_limbs_Add K [.r, .r, .r, .r, .l, .r, .b] limbs_Add_c [] limbs_Add_fin (fun _ _ => none) limbs_Add_fin n (limbs_Add_mk0 a b out carry t21 t22 t23) = limbs_Add_l0 K n a b out carry t21 t22 t23 := by
  intro n
  induction n with
  | zero => intro a b out carry t21 t22 t23; kernel_rfl
  | succ n ih =>
    intro a b out carry t21 t22 t23
    have e : loopAt Γ_limbs_Add K [.r, .r, .r, .r, .l, .r, .b] limbs_Add_c [] limbs_Add_fin (fun _ _ => none) limbs_Add_fin (n + 1) (limbs_Add_mk0 a b out carry t21 t22 t23) = limbs_Add_s0 (fun (a : List Int) (b : List Int) (out : List Int) (carry : Int) (t21 : List Int) (t22 : Int) (t23 : Int) => loopAt Γ_limbs_Add K [.r, .r, .r, .r, .l, .r, .b] limbs_Add_c [] limbs_Add_fin (fun _ _ => none) limbs_Add_fin n (limbs_Add_mk0 a b out carry t21 t22 t23)) a b out carry t21 t22 t23 := by kernel_rfl
    rw [e]
    rw [show (fun (a : List Int) (b : List Int) (out : List Int) (carry : Int) (t21 : List Int) (t22 : Int) (t23 : Int) => loopAt Γ_limbs_Add K [.r, .r, .r, .r, .l, .r, .b] limbs_Add_c [] limbs_Add_fin (fun _ _ => none) limbs_Add_fin n (limbs_Add_mk0 a b out carry t21 t22 t23)) = _ from funext fun a => funext fun b => funext fun out => funext fun carry => funext fun t21 => funext fun t22 => funext fun t23 => ih a b out carry t21 t22 t23]
    rfl
theorem limbs_Add_eq (K : Nat) (a : List Int) (b : List Int) : exF Γ_limbs_Add K Tryd.f47 (.pair (.sl (.int .u32)) (.pair (.sl (.int .u32)) .unit)) (.pair (.sl (.int .u32)) (.pair (.int .i64) .unit)) [] (a, b, ()) = limbs_Add K a b := by
  have e : exF Γ_limbs_Add K Tryd.f47 (.pair (.sl (.int .u32)) (.pair (.sl (.int .u32)) .unit)) (.pair (.sl (.int .u32)) (.pair (.int .i64) .unit)) [] (a, b, ()) = limbs_Add_b (fun (a : List Int) (b : List Int) (out : List Int) (carry : Int) (t21 : List Int) (t22 : Int) (t23 : Int) => loopAt Γ_limbs_Add K [.r, .r, .r, .r, .l, .r, .b] limbs_Add_c [] limbs_Add_fin (fun _ _ => none) limbs_Add_fin K (limbs_Add_mk0 a b out carry t21 t22 t23)) a b := by kernel_rfl
  rw [e]
  rw [show (fun (a : List Int) (b : List Int) (out : List Int) (carry : Int) (t21 : List Int) (t22 : Int) (t23 : Int) => loopAt Γ_limbs_Add K [.r, .r, .r, .r, .l, .r, .b] limbs_Add_c [] limbs_Add_fin (fun _ _ => none) limbs_Add_fin K (limbs_Add_mk0 a b out carry t21 t22 t23)) = _ from funext fun a => funext fun b => funext fun out => funext fun carry => funext fun t21 => funext fun t22 => funext fun t23 => limbs_Add_loop0 K K a b out carry t21 t22 t23]
  rfl
theorem env_limbs_Add : EnvOK Tryd.prog G Γ_limbs_Add := ⟨T_ok, ((phi_cons fn_limbs_fits phi_nil) : PhiOK Tryd.prog G Γ_limbs_Add.Φ), fun _ _ h => (by cases h), mixed⟩
theorem fn_limbs_Add : FnOK Tryd.prog G 47 ⟨(.pair (.sl (.int .u32)) (.pair (.sl (.int .u32)) .unit)), (.pair (.sl (.int .u32)) (.pair (.int .i64) .unit)), [], S.limbs_Add, none⟩ := FnOK.of env_limbs_Add Tryd.func47 (by kernel_rfl) (by kernel_rfl) (of_decide_eq_true (by kernel_rfl)) (fun x y h => by obtain ⟨K, hK⟩ := limbs_Add_ok x y h; exact ⟨K, (limbs_Add_eq K x.1 x.2.1).trans hK⟩)

noncomputable def Γ_digits_step : Env := { T := T, Φ := fun i => bif Nat.beq i 16 then some ⟨(.pair (.sl (.int .u32)) (.pair (.sl (.int .u32)) .unit)), (.pair (.sl (.int .u32)) (.pair (.int .i64) .unit)), [], S.limbs_Mul, none⟩ else bif Nat.beq i 20 then some ⟨(.pair (.int .u64) .unit), (.pair (.sl (.int .u32)) .unit), [], S.limbs_Of, none⟩ else bif Nat.beq i 47 then some ⟨(.pair (.sl (.int .u32)) (.pair (.sl (.int .u32)) .unit)), (.pair (.sl (.int .u32)) (.pair (.int .i64) .unit)), [], S.limbs_Add, none⟩ else none, ann := fun i => bif Nat.beq i 3 then [(0, .c (.data (.int .u32))), (1, .c .sc), (6, .c .sc), (7, .c .sc), (12, .c .sc), (13, .c .sc)] else [], ord := fun i => [] }
noncomputable def digits_step_c : Code := (Tryd.f27.body).getD .skip
noncomputable def digits_step_fin := finish Γ_digits_step Tryd.f27.results.toList (.pair (.sl (.int .u32)) (.pair (.int .i64) .unit)) []
noncomputable def digits_step_mk0 (a : List Int) (s : ByteArray) (n2 : Int) (scale : Int) (t12 : Int) (t13 : Int) : St := { t := (upd (upd (upd (upd (upd (upd (fun _ => .undef) 0 (.one (.sl (.int .u32) a))) 1 (.one (.str s))) 6 (.one (.int .u64 n2))) 7 (.one (.int .u64 scale))) 12 (.one (.int .i64 t12))) 13 (.one (.int .i64 t13))), m := (upd (fun _ => .free) 0 .held), nx := 1000000, n := 43 }
theorem digits_step_loop0 (K : Nat) : ∀ (n : Nat) (a : List Int) (s : ByteArray) (n2 : Int) (scale : Int) (t12 : Int) (t13 : Int), loopAt Γ_digits_step K [.r, .r, .l, .r, .b] digits_step_c [] digits_step_fin (fun _ _ => none) digits_step_fin n (digits_step_mk0 a s n2 scale t12 t13) = digits_step_l0 K n a s n2 scale t12 t13 := by
  intro n
  induction n with
  | zero => intro a s n2 scale t12 t13; kernel_rfl
  | succ n ih =>
    intro a s n2 scale t12 t13
    have e : loopAt Γ_digits_step K [.r, .r, .l, .r, .b] digits_step_c [] digits_step_fin (fun _ _ => none) digits_step_fin (n + 1) (digits_step_mk0 a s n2 scale t12 t13) = digits_step_s0 (fun (a : List Int) (s : ByteArray) (n2 : Int) (scale : Int) (t12 : Int) (t13 : Int) => loopAt Γ_digits_step K [.r, .r, .l, .r, .b] digits_step_c [] digits_step_fin (fun _ _ => none) digits_step_fin n (digits_step_mk0 a s n2 scale t12 t13)) a s n2 scale t12 t13 := by kernel_rfl
    rw [e]
    rw [show (fun (a : List Int) (s : ByteArray) (n2 : Int) (scale : Int) (t12 : Int) (t13 : Int) => loopAt Γ_digits_step K [.r, .r, .l, .r, .b] digits_step_c [] digits_step_fin (fun _ _ => none) digits_step_fin n (digits_step_mk0 a s n2 scale t12 t13)) = _ from funext fun a => funext fun s => funext fun n2 => funext fun scale => funext fun t12 => funext fun t13 => ih a s n2 scale t12 t13]
    rfl
theorem digits_step_eq (K : Nat) (a : List Int) (s : ByteArray) : exF Γ_digits_step K Tryd.f27 (.pair (.sl (.int .u32)) (.pair .str .unit)) (.pair (.sl (.int .u32)) (.pair (.int .i64) .unit)) [] (a, s, ()) = digits_step K a s := by
  have e : exF Γ_digits_step K Tryd.f27 (.pair (.sl (.int .u32)) (.pair .str .unit)) (.pair (.sl (.int .u32)) (.pair (.int .i64) .unit)) [] (a, s, ()) = digits_step_b (fun (a : List Int) (s : ByteArray) (n2 : Int) (scale : Int) (t12 : Int) (t13 : Int) => loopAt Γ_digits_step K [.r, .r, .l, .r, .b] digits_step_c [] digits_step_fin (fun _ _ => none) digits_step_fin K (digits_step_mk0 a s n2 scale t12 t13)) a s := by kernel_rfl
  rw [e]
  rw [show (fun (a : List Int) (s : ByteArray) (n2 : Int) (scale : Int) (t12 : Int) (t13 : Int) => loopAt Γ_digits_step K [.r, .r, .l, .r, .b] digits_step_c [] digits_step_fin (fun _ _ => none) digits_step_fin K (digits_step_mk0 a s n2 scale t12 t13)) = _ from funext fun a => funext fun s => funext fun n2 => funext fun scale => funext fun t12 => funext fun t13 => digits_step_loop0 K K a s n2 scale t12 t13]
  rfl
theorem env_digits_step : EnvOK Tryd.prog G Γ_digits_step := ⟨T_ok, ((phi_cons fn_limbs_Mul (phi_cons fn_limbs_Of (phi_cons fn_limbs_Add phi_nil))) : PhiOK Tryd.prog G Γ_digits_step.Φ), fun _ _ h => (by cases h), mixed⟩
theorem fn_digits_step : FnOK Tryd.prog G 27 ⟨(.pair (.sl (.int .u32)) (.pair .str .unit)), (.pair (.sl (.int .u32)) (.pair (.int .i64) .unit)), [], S.digits_step, none⟩ := FnOK.of env_digits_step Tryd.func27 (by kernel_rfl) (by kernel_rfl) (of_decide_eq_true (by kernel_rfl)) (fun x y h => by obtain ⟨K, hK⟩ := digits_step_ok x y h; exact ⟨K, (digits_step_eq K x.1 x.2.1).trans hK⟩)

noncomputable def Γ_digits_Parse : Env := { T := T, Φ := fun i => bif Nat.beq i 27 then some ⟨(.pair (.sl (.int .u32)) (.pair .str .unit)), (.pair (.sl (.int .u32)) (.pair (.int .i64) .unit)), [], S.digits_step, none⟩ else none, ann := fun i => bif Nat.beq i 4 then [(0, .c .sc), (12, .c (.iter 100))] else bif Nat.beq i 11 then [(0, .c .sc), (6, .c (.data (.int .u32)))] else [], ord := fun i => [] }
noncomputable def digits_Parse_c : Code := (Tryd.f10.body).getD .skip
noncomputable def digits_Parse_fin := finish Γ_digits_Parse Tryd.f10.results.toList (.pair (.sl (.int .u32)) (.pair (.int .i64) .unit)) []
noncomputable def digits_Parse_mk0 (s : ByteArray) (t12_s : ByteArray) (t12_p : Nat) : St := { t := (upd (upd (fun _ => .undef) 0 (.one (.str s))) 12 (.one (.iter 100))), m := (upd (upd (fun _ => .free) 0 .held) 100 (.iter t12_s t12_p)), nx := 1000000, n := 47 }
noncomputable def digits_Parse_mk1 (s : ByteArray) (out : List Int) : St := { t := (upd (upd (fun _ => .undef) 0 (.one (.str s))) 6 (.one (.sl (.int .u32) out))), m := (upd (fun _ => .free) 0 .held), nx := 1000000, n := 47 }
theorem digits_Parse_loop1 (K : Nat) (κ0 : St → Option (Den (.pair (.sl (.int .u32)) (.pair (.int .i64) .unit)))) : ∀ (n : Nat) (s : ByteArray) (out : List Int), loopAt Γ_digits_Parse K [.r, .r, .r, .r, .r, .l, .b] digits_Parse_c [fun st => mask [(0, .c .sc), (12, .c (.iter 100))] 1000000 st (κ0)] digits_Parse_fin (fun _ _ => none) digits_Parse_fin n (digits_Parse_mk1 s out) = digits_Parse_l1 K (fun (s : ByteArray) (t12_s : ByteArray) (t12_p : Nat) => κ0 (digits_Parse_mk0 s t12_s t12_p)) n s out := by
  intro n
  induction n with
  | zero => intro s out; kernel_rfl
  | succ n ih =>
    intro s out
    have e : loopAt Γ_digits_Parse K [.r, .r, .r, .r, .r, .l, .b] digits_Parse_c [fun st => mask [(0, .c .sc), (12, .c (.iter 100))] 1000000 st (κ0)] digits_Parse_fin (fun _ _ => none) digits_Parse_fin (n + 1) (digits_Parse_mk1 s out) = digits_Parse_s1 (fun (s : ByteArray) (t12_s : ByteArray) (t12_p : Nat) => κ0 (digits_Parse_mk0 s t12_s t12_p)) (fun (s : ByteArray) (out : List Int) => loopAt Γ_digits_Parse K [.r, .r, .r, .r, .r, .l, .b] digits_Parse_c [fun st => mask [(0, .c .sc), (12, .c (.iter 100))] 1000000 st (κ0)] digits_Parse_fin (fun _ _ => none) digits_Parse_fin n (digits_Parse_mk1 s out)) s out := by kernel_rfl
    rw [e]
    rw [show (fun (s : ByteArray) (out : List Int) => loopAt Γ_digits_Parse K [.r, .r, .r, .r, .r, .l, .b] digits_Parse_c [fun st => mask [(0, .c .sc), (12, .c (.iter 100))] 1000000 st (κ0)] digits_Parse_fin (fun _ _ => none) digits_Parse_fin n (digits_Parse_mk1 s out)) = _ from funext fun s => funext fun out => ih s out]
    rfl
theorem digits_Parse_loop0 (K : Nat) : ∀ (n : Nat) (s : ByteArray) (t12_s : ByteArray) (t12_p : Nat), loopAt Γ_digits_Parse K [.r, .r, .l, .r, .b] digits_Parse_c [] digits_Parse_fin (fun _ _ => none) digits_Parse_fin n (digits_Parse_mk0 s t12_s t12_p) = digits_Parse_l0 K n s t12_s t12_p := by
  intro n
  induction n with
  | zero => intro s t12_s t12_p; kernel_rfl
  | succ n ih =>
    intro s t12_s t12_p
    have e : loopAt Γ_digits_Parse K [.r, .r, .l, .r, .b] digits_Parse_c [] digits_Parse_fin (fun _ _ => none) digits_Parse_fin (n + 1) (digits_Parse_mk0 s t12_s t12_p) = digits_Parse_s0 (fun (s : ByteArray) (out : List Int) => loopAt Γ_digits_Parse K [.r, .r, .r, .r, .r, .l, .b] digits_Parse_c [fun st => mask [(0, .c .sc), (12, .c (.iter 100))] 1000000 st (loopAt Γ_digits_Parse K [.r, .r, .l, .r, .b] digits_Parse_c [] digits_Parse_fin (fun _ _ => none) digits_Parse_fin n)] digits_Parse_fin (fun _ _ => none) digits_Parse_fin K (digits_Parse_mk1 s out)) (fun (s : ByteArray) (t12_s : ByteArray) (t12_p : Nat) => loopAt Γ_digits_Parse K [.r, .r, .l, .r, .b] digits_Parse_c [] digits_Parse_fin (fun _ _ => none) digits_Parse_fin n (digits_Parse_mk0 s t12_s t12_p)) s t12_s t12_p := by kernel_rfl
    rw [e]
    rw [show (fun (s : ByteArray) (out : List Int) => loopAt Γ_digits_Parse K [.r, .r, .r, .r, .r, .l, .b] digits_Parse_c [fun st => mask [(0, .c .sc), (12, .c (.iter 100))] 1000000 st (loopAt Γ_digits_Parse K [.r, .r, .l, .r, .b] digits_Parse_c [] digits_Parse_fin (fun _ _ => none) digits_Parse_fin n)] digits_Parse_fin (fun _ _ => none) digits_Parse_fin K (digits_Parse_mk1 s out)) = _ from funext fun s => funext fun out => digits_Parse_loop1 K (loopAt Γ_digits_Parse K [.r, .r, .l, .r, .b] digits_Parse_c [] digits_Parse_fin (fun _ _ => none) digits_Parse_fin n) K s out]
    rw [show (fun (s : ByteArray) (t12_s : ByteArray) (t12_p : Nat) => loopAt Γ_digits_Parse K [.r, .r, .l, .r, .b] digits_Parse_c [] digits_Parse_fin (fun _ _ => none) digits_Parse_fin n (digits_Parse_mk0 s t12_s t12_p)) = _ from funext fun s => funext fun t12_s => funext fun t12_p => ih s t12_s t12_p]
    rfl
theorem digits_Parse_eq (K : Nat) (s : ByteArray) : exF Γ_digits_Parse K Tryd.f10 (.pair .str .unit) (.pair (.sl (.int .u32)) (.pair (.int .i64) .unit)) [] (s, ()) = digits_Parse K s := by
  have e : exF Γ_digits_Parse K Tryd.f10 (.pair .str .unit) (.pair (.sl (.int .u32)) (.pair (.int .i64) .unit)) [] (s, ()) = digits_Parse_b (fun (s : ByteArray) (t12_s : ByteArray) (t12_p : Nat) => loopAt Γ_digits_Parse K [.r, .r, .l, .r, .b] digits_Parse_c [] digits_Parse_fin (fun _ _ => none) digits_Parse_fin K (digits_Parse_mk0 s t12_s t12_p)) s := by kernel_rfl
  rw [e]
  rw [show (fun (s : ByteArray) (t12_s : ByteArray) (t12_p : Nat) => loopAt Γ_digits_Parse K [.r, .r, .l, .r, .b] digits_Parse_c [] digits_Parse_fin (fun _ _ => none) digits_Parse_fin K (digits_Parse_mk0 s t12_s t12_p)) = _ from funext fun s => funext fun t12_s => funext fun t12_p => digits_Parse_loop0 K K s t12_s t12_p]
  rfl
theorem env_digits_Parse : EnvOK Tryd.prog G Γ_digits_Parse := ⟨T_ok, ((phi_cons fn_digits_step phi_nil) : PhiOK Tryd.prog G Γ_digits_Parse.Φ), fun _ _ h => (by cases h), mixed⟩
theorem fn_digits_Parse : FnOK Tryd.prog G 10 ⟨(.pair .str .unit), (.pair (.sl (.int .u32)) (.pair (.int .i64) .unit)), [], S.digits_Parse, none⟩ := FnOK.of env_digits_Parse Tryd.func10 (by kernel_rfl) (by kernel_rfl) (of_decide_eq_true (by kernel_rfl)) (fun x y h => by obtain ⟨K, hK⟩ := digits_Parse_ok x y h; exact ⟨K, (digits_Parse_eq K x.1).trans hK⟩)

theorem fn_limbs_short : FnOK Tryd.prog G 31 ⟨(.pair (.sl (.int .u32)) (.pair (.int .u32) .unit)), (.pair (.sl (.int .u32)) (.pair (.int .u32) .unit)), [], S.limbs_short, none⟩ := fn_limbs_short_of fn_limbs_trim

noncomputable def Γ_bits_Len32 : Env := { T := T, Φ := fun i => none, ann := fun i => [], ord := fun i => [] }
theorem bits_Len32_eq (K : Nat) (x : Int) : exF Γ_bits_Len32 K Tryd.f63 (.pair (.int .u32) .unit) (.pair (.int .i64) .unit) [] (x, ()) = bits_Len32 x := by kernel_rfl
theorem env_bits_Len32 : EnvOK Tryd.prog G Γ_bits_Len32 := ⟨T_ok, (phi_nil : PhiOK Tryd.prog G Γ_bits_Len32.Φ), fun _ _ h => (by cases h), mixed⟩
theorem fn_bits_Len32 : FnOK Tryd.prog G 63 ⟨(.pair (.int .u32) .unit), (.pair (.int .i64) .unit), [], S.bits_Len32, none⟩ := FnOK.of env_bits_Len32 Tryd.func63 (by kernel_rfl) (by kernel_rfl) (of_decide_eq_true (by kernel_rfl)) (fun x y h => ⟨0, (bits_Len32_eq 0 x.1).trans h⟩)

noncomputable def Γ_bits_LeadingZeros32 : Env := { T := T, Φ := fun i => bif Nat.beq i 63 then some ⟨(.pair (.int .u32) .unit), (.pair (.int .i64) .unit), [], S.bits_Len32, none⟩ else none, ann := fun i => [], ord := fun i => [] }
theorem bits_LeadingZeros32_eq (K : Nat) (x : Int) : exF Γ_bits_LeadingZeros32 K Tryd.f48 (.pair (.int .u32) .unit) (.pair (.int .i64) .unit) [] (x, ()) = bits_LeadingZeros32 x := by kernel_rfl
theorem env_bits_LeadingZeros32 : EnvOK Tryd.prog G Γ_bits_LeadingZeros32 := ⟨T_ok, ((phi_cons fn_bits_Len32 phi_nil) : PhiOK Tryd.prog G Γ_bits_LeadingZeros32.Φ), fun _ _ h => (by cases h), mixed⟩
theorem fn_bits_LeadingZeros32 : FnOK Tryd.prog G 48 ⟨(.pair (.int .u32) .unit), (.pair (.int .i64) .unit), [], S.bits_LeadingZeros32, none⟩ := FnOK.of env_bits_LeadingZeros32 Tryd.func48 (by kernel_rfl) (by kernel_rfl) (of_decide_eq_true (by kernel_rfl)) (fun x y h => ⟨0, (bits_LeadingZeros32_eq 0 x.1).trans h⟩)

noncomputable def Γ_limbs_moved : Env := { T := T, Φ := fun i => none, ann := fun i => bif Nat.beq i 3 then [(1, .c .sc), (5, .c (.own 100 31 (.int .u32))), (13, .c (.data (.int .u32))), (14, .c .sc), (15, .c .sc)] else [], ord := fun i => [] }
noncomputable def limbs_moved_c : Code := (Tryd.f49.body).getD .skip
noncomputable def limbs_moved_fin := finish Γ_limbs_moved Tryd.f49.results.toList (.pair (.sl (.int .u32)) .unit) [some 31]
noncomputable def limbs_moved_mk0 (shift : Int) (out : List Int) (t13 : List Int) (t14 : Int) (t15 : Int) : St := { t := (upd (upd (upd (upd (upd (fun _ => .undef) 1 (.one (.int .i64 shift))) 5 (.one (.own 100))) 13 (.one (.sl (.int .u32) t13))) 14 (.one (.int .i64 t14))) 15 (.one (.int .i64 t15))), m := (upd (upd (fun _ => .free) 0 .held) 100 (.row true 31 (.int .u32) out)), nx := 1000000, n := 41 }
theorem limbs_moved_loop0 (K : Nat) : ∀ (n : Nat) (shift : Int) (out : List Int) (t13 : List Int) (t14 : Int) (t15 : Int), loopAt Γ_limbs_moved K [.r, .r, .l, .r, .b] limbs_moved_c [] limbs_moved_fin (fun _ _ => none) limbs_moved_fin n (limbs_moved_mk0 shift out t13 t14 t15) = limbs_moved_l0 K n shift out t13 t14 t15 := by
  intro n
  induction n with
  | zero => intro shift out t13 t14 t15; kernel_rfl
  | succ n ih =>
    intro shift out t13 t14 t15
    have e : loopAt Γ_limbs_moved K [.r, .r, .l, .r, .b] limbs_moved_c [] limbs_moved_fin (fun _ _ => none) limbs_moved_fin (n + 1) (limbs_moved_mk0 shift out t13 t14 t15) = limbs_moved_s0 (fun (shift : Int) (out : List Int) (t13 : List Int) (t14 : Int) (t15 : Int) => loopAt Γ_limbs_moved K [.r, .r, .l, .r, .b] limbs_moved_c [] limbs_moved_fin (fun _ _ => none) limbs_moved_fin n (limbs_moved_mk0 shift out t13 t14 t15)) shift out t13 t14 t15 := by kernel_rfl
    rw [e]
    rw [show (fun (shift : Int) (out : List Int) (t13 : List Int) (t14 : Int) (t15 : Int) => loopAt Γ_limbs_moved K [.r, .r, .l, .r, .b] limbs_moved_c [] limbs_moved_fin (fun _ _ => none) limbs_moved_fin n (limbs_moved_mk0 shift out t13 t14 t15)) = _ from funext fun shift => funext fun out => funext fun t13 => funext fun t14 => funext fun t15 => ih shift out t13 t14 t15]
    rfl
theorem limbs_moved_eq (K : Nat) (a : List Int) (shift : Int) : exF Γ_limbs_moved K Tryd.f49 (.pair (.sl (.int .u32)) (.pair (.int .i64) .unit)) (.pair (.sl (.int .u32)) .unit) [some 31] (a, shift, ()) = limbs_moved K a shift := by
  have e : exF Γ_limbs_moved K Tryd.f49 (.pair (.sl (.int .u32)) (.pair (.int .i64) .unit)) (.pair (.sl (.int .u32)) .unit) [some 31] (a, shift, ()) = limbs_moved_b (fun (shift : Int) (out : List Int) (t13 : List Int) (t14 : Int) (t15 : Int) => loopAt Γ_limbs_moved K [.r, .r, .l, .r, .b] limbs_moved_c [] limbs_moved_fin (fun _ _ => none) limbs_moved_fin K (limbs_moved_mk0 shift out t13 t14 t15)) a shift := by kernel_rfl
  rw [e]
  rw [show (fun (shift : Int) (out : List Int) (t13 : List Int) (t14 : Int) (t15 : Int) => loopAt Γ_limbs_moved K [.r, .r, .l, .r, .b] limbs_moved_c [] limbs_moved_fin (fun _ _ => none) limbs_moved_fin K (limbs_moved_mk0 shift out t13 t14 t15)) = _ from funext fun shift => funext fun out => funext fun t13 => funext fun t14 => funext fun t15 => limbs_moved_loop0 K K shift out t13 t14 t15]
  rfl
theorem env_limbs_moved : EnvOK Tryd.prog G Γ_limbs_moved := ⟨T_ok, (phi_nil : PhiOK Tryd.prog G Γ_limbs_moved.Φ), fun _ _ h => (by cases h), mixed⟩
theorem fn_limbs_moved : FnOK Tryd.prog G 49 ⟨(.pair (.sl (.int .u32)) (.pair (.int .i64) .unit)), (.pair (.sl (.int .u32)) .unit), [some 31], S.limbs_moved, none⟩ := FnOK.of env_limbs_moved Tryd.func49 (by kernel_rfl) (by kernel_rfl) (of_decide_eq_true (by kernel_rfl)) (fun x y h => by obtain ⟨K, hK⟩ := limbs_moved_ok x y h; exact ⟨K, (limbs_moved_eq K x.1 x.2.1).trans hK⟩)

noncomputable def Γ_limbs_less : Env := { T := T, Φ := fun i => none, ann := fun i => bif Nat.beq i 3 then [(0, .c .win), (1, .c (.data (.int .u32))), (2, .c .sc), (7, .c .sc), (8, .c .sc), (13, .c (.data (.int .u32))), (14, .c .sc), (15, .c .sc)] else [], ord := fun i => [] }
noncomputable def limbs_less_c : Code := (Tryd.f50.body).getD .skip
noncomputable def limbs_less_fin := finishW Γ_limbs_less 31 Tryd.f50.results.toList (.pair (.sl (.int .u32)) (.pair .bool .unit)) []
noncomputable def limbs_less_mk0 (u : List Int) (off : Nat) (len : Nat) (v : List Int) (digit : Int) (carry : Int) (owed : Int) (t13 : List Int) (t14 : Int) (t15 : Int) : St := { t := (upd (upd (upd (upd (upd (upd (upd (upd (fun _ => .undef) 0 (.one (.sub 0 off len))) 1 (.one (.sl (.int .u32) v))) 2 (.one (.int .u64 digit))) 7 (.one (.int .u64 carry))) 8 (.one (.int .u64 owed))) 13 (.one (.sl (.int .u32) t13))) 14 (.one (.int .i64 t14))) 15 (.one (.int .i64 t15))), m := (upd (upd (fun _ => .free) 0 .held) 0 (.row true 31 (.int .u32) u)), nx := 1000000, n := 66 }
theorem limbs_less_loop0 (K : Nat) : ∀ (n : Nat) (u : List Int) (off : Nat) (len : Nat) (v : List Int) (digit : Int) (carry : Int) (owed : Int) (t13 : List Int) (t14 : Int) (t15 : Int), loopAt Γ_limbs_less K [.r, .r, .l, .r, .b] limbs_less_c [] limbs_less_fin (fun _ _ => none) limbs_less_fin n (limbs_less_mk0 u off len v digit carry owed t13 t14 t15) = limbs_less_l0 K n u off len v digit carry owed t13 t14 t15 := by
  intro n
  induction n with
  | zero => intro u off len v digit carry owed t13 t14 t15; kernel_rfl
  | succ n ih =>
    intro u off len v digit carry owed t13 t14 t15
    have e : loopAt Γ_limbs_less K [.r, .r, .l, .r, .b] limbs_less_c [] limbs_less_fin (fun _ _ => none) limbs_less_fin (n + 1) (limbs_less_mk0 u off len v digit carry owed t13 t14 t15) = limbs_less_s0 (fun (u : List Int) (off : Nat) (len : Nat) (v : List Int) (digit : Int) (carry : Int) (owed : Int) (t13 : List Int) (t14 : Int) (t15 : Int) => loopAt Γ_limbs_less K [.r, .r, .l, .r, .b] limbs_less_c [] limbs_less_fin (fun _ _ => none) limbs_less_fin n (limbs_less_mk0 u off len v digit carry owed t13 t14 t15)) u off len v digit carry owed t13 t14 t15 := by kernel_rfl
    rw [e]
    rw [show (fun (u : List Int) (off : Nat) (len : Nat) (v : List Int) (digit : Int) (carry : Int) (owed : Int) (t13 : List Int) (t14 : Int) (t15 : Int) => loopAt Γ_limbs_less K [.r, .r, .l, .r, .b] limbs_less_c [] limbs_less_fin (fun _ _ => none) limbs_less_fin n (limbs_less_mk0 u off len v digit carry owed t13 t14 t15)) = _ from funext fun u => funext fun off => funext fun len => funext fun v => funext fun digit => funext fun carry => funext fun owed => funext fun t13 => funext fun t14 => funext fun t15 => ih u off len v digit carry owed t13 t14 t15]
    rfl
theorem limbs_less_eq (K : Nat) (u : List Int) (off : Int) (len : Int) (v : List Int) (digit : Int) : exW Γ_limbs_less K Tryd.f50 31 (.pair (.sl (.int .u32)) (.pair (.int .i64) (.pair (.int .i64) (.pair (.sl (.int .u32)) (.pair (.int .u64) .unit))))) (.pair (.sl (.int .u32)) (.pair .bool .unit)) [] (u, off, len, v, digit, ()) = limbs_less K u off len v digit := by
  have e : exW Γ_limbs_less K Tryd.f50 31 (.pair (.sl (.int .u32)) (.pair (.int .i64) (.pair (.int .i64) (.pair (.sl (.int .u32)) (.pair (.int .u64) .unit))))) (.pair (.sl (.int .u32)) (.pair .bool .unit)) [] (u, off, len, v, digit, ()) = limbs_less_b (fun (u : List Int) (off : Nat) (len : Nat) (v : List Int) (digit : Int) (carry : Int) (owed : Int) (t13 : List Int) (t14 : Int) (t15 : Int) => loopAt Γ_limbs_less K [.r, .r, .l, .r, .b] limbs_less_c [] limbs_less_fin (fun _ _ => none) limbs_less_fin K (limbs_less_mk0 u off len v digit carry owed t13 t14 t15)) u off len v digit := by kernel_rfl
  rw [e]
  rw [show (fun (u : List Int) (off : Nat) (len : Nat) (v : List Int) (digit : Int) (carry : Int) (owed : Int) (t13 : List Int) (t14 : Int) (t15 : Int) => loopAt Γ_limbs_less K [.r, .r, .l, .r, .b] limbs_less_c [] limbs_less_fin (fun _ _ => none) limbs_less_fin K (limbs_less_mk0 u off len v digit carry owed t13 t14 t15)) = _ from funext fun u => funext fun off => funext fun len => funext fun v => funext fun digit => funext fun carry => funext fun owed => funext fun t13 => funext fun t14 => funext fun t15 => limbs_less_loop0 K K u off len v digit carry owed t13 t14 t15]
  rfl
theorem env_limbs_less : EnvOK Tryd.prog G Γ_limbs_less := ⟨T_ok, (phi_nil : PhiOK Tryd.prog G Γ_limbs_less.Φ), fun _ _ h => (by cases h), mixed⟩
theorem fn_limbs_less : FnOK Tryd.prog G 50 ⟨(.pair (.sl (.int .u32)) (.pair (.int .i64) (.pair (.int .i64) (.pair (.sl (.int .u32)) (.pair (.int .u64) .unit))))), (.pair (.sl (.int .u32)) (.pair .bool .unit)), [], S.limbs_less, some 31⟩ := FnOK.ofW env_limbs_less Tryd.func50 (by kernel_rfl) (by kernel_rfl) (of_decide_eq_true (by kernel_rfl)) limbs_less_len (fun x y h => by obtain ⟨K, hK⟩ := limbs_less_ok x y h; exact ⟨K, (limbs_less_eq K x.1 x.2.1 x.2.2.1 x.2.2.2.1 x.2.2.2.2.1).trans hK⟩)

noncomputable def Γ_limbs_back : Env := { T := T, Φ := fun i => none, ann := fun i => bif Nat.beq i 2 then [(0, .c .win), (1, .c (.data (.int .u32))), (4, .c .sc), (7, .c (.data (.int .u32))), (8, .c .sc), (9, .c .sc)] else [], ord := fun i => [] }
noncomputable def limbs_back_c : Code := (Tryd.f51.body).getD .skip
noncomputable def limbs_back_fin := finishW Γ_limbs_back 31 Tryd.f51.results.toList (.pair (.sl (.int .u32)) .unit) []
noncomputable def limbs_back_mk0 (u : List Int) (off : Nat) (len : Nat) (v : List Int) (carry : Int) (t7 : List Int) (t8 : Int) (t9 : Int) : St := { t := (upd (upd (upd (upd (upd (upd (fun _ => .undef) 0 (.one (.sub 0 off len))) 1 (.one (.sl (.int .u32) v))) 4 (.one (.int .u64 carry))) 7 (.one (.sl (.int .u32) t7))) 8 (.one (.int .i64 t8))) 9 (.one (.int .i64 t9))), m := (upd (upd (fun _ => .free) 0 .held) 0 (.row true 31 (.int .u32) u)), nx := 1000000, n := 41 }
theorem limbs_back_loop0 (K : Nat) : ∀ (n : Nat) (u : List Int) (off : Nat) (len : Nat) (v : List Int) (carry : Int) (t7 : List Int) (t8 : Int) (t9 : Int), loopAt Γ_limbs_back K [.r, .l, .r, .b] limbs_back_c [] limbs_back_fin (fun _ _ => none) limbs_back_fin n (limbs_back_mk0 u off len v carry t7 t8 t9) = limbs_back_l0 K n u off len v carry t7 t8 t9 := by
  intro n
  induction n with
  | zero => intro u off len v carry t7 t8 t9; kernel_rfl
  | succ n ih =>
    intro u off len v carry t7 t8 t9
    have e : loopAt Γ_limbs_back K [.r, .l, .r, .b] limbs_back_c [] limbs_back_fin (fun _ _ => none) limbs_back_fin (n + 1) (limbs_back_mk0 u off len v carry t7 t8 t9) = limbs_back_s0 (fun (u : List Int) (off : Nat) (len : Nat) (v : List Int) (carry : Int) (t7 : List Int) (t8 : Int) (t9 : Int) => loopAt Γ_limbs_back K [.r, .l, .r, .b] limbs_back_c [] limbs_back_fin (fun _ _ => none) limbs_back_fin n (limbs_back_mk0 u off len v carry t7 t8 t9)) u off len v carry t7 t8 t9 := by kernel_rfl
    rw [e]
    rw [show (fun (u : List Int) (off : Nat) (len : Nat) (v : List Int) (carry : Int) (t7 : List Int) (t8 : Int) (t9 : Int) => loopAt Γ_limbs_back K [.r, .l, .r, .b] limbs_back_c [] limbs_back_fin (fun _ _ => none) limbs_back_fin n (limbs_back_mk0 u off len v carry t7 t8 t9)) = _ from funext fun u => funext fun off => funext fun len => funext fun v => funext fun carry => funext fun t7 => funext fun t8 => funext fun t9 => ih u off len v carry t7 t8 t9]
    rfl
theorem limbs_back_eq (K : Nat) (u : List Int) (off : Int) (len : Int) (v : List Int) : exW Γ_limbs_back K Tryd.f51 31 (.pair (.sl (.int .u32)) (.pair (.int .i64) (.pair (.int .i64) (.pair (.sl (.int .u32)) .unit)))) (.pair (.sl (.int .u32)) .unit) [] (u, off, len, v, ()) = limbs_back K u off len v := by
  have e : exW Γ_limbs_back K Tryd.f51 31 (.pair (.sl (.int .u32)) (.pair (.int .i64) (.pair (.int .i64) (.pair (.sl (.int .u32)) .unit)))) (.pair (.sl (.int .u32)) .unit) [] (u, off, len, v, ()) = limbs_back_b (fun (u : List Int) (off : Nat) (len : Nat) (v : List Int) (carry : Int) (t7 : List Int) (t8 : Int) (t9 : Int) => loopAt Γ_limbs_back K [.r, .l, .r, .b] limbs_back_c [] limbs_back_fin (fun _ _ => none) limbs_back_fin K (limbs_back_mk0 u off len v carry t7 t8 t9)) u off len v := by kernel_rfl
  rw [e]
  rw [show (fun (u : List Int) (off : Nat) (len : Nat) (v : List Int) (carry : Int) (t7 : List Int) (t8 : Int) (t9 : Int) => loopAt Γ_limbs_back K [.r, .l, .r, .b] limbs_back_c [] limbs_back_fin (fun _ _ => none) limbs_back_fin K (limbs_back_mk0 u off len v carry t7 t8 t9)) = _ from funext fun u => funext fun off => funext fun len => funext fun v => funext fun carry => funext fun t7 => funext fun t8 => funext fun t9 => limbs_back_loop0 K K u off len v carry t7 t8 t9]
  rfl
theorem env_limbs_back : EnvOK Tryd.prog G Γ_limbs_back := ⟨T_ok, (phi_nil : PhiOK Tryd.prog G Γ_limbs_back.Φ), fun _ _ h => (by cases h), mixed⟩
theorem fn_limbs_back : FnOK Tryd.prog G 51 ⟨(.pair (.sl (.int .u32)) (.pair (.int .i64) (.pair (.int .i64) (.pair (.sl (.int .u32)) .unit)))), (.pair (.sl (.int .u32)) .unit), [], S.limbs_back, some 31⟩ := FnOK.ofW env_limbs_back Tryd.func51 (by kernel_rfl) (by kernel_rfl) (of_decide_eq_true (by kernel_rfl)) limbs_back_len (fun x y h => by obtain ⟨K, hK⟩ := limbs_back_ok x y h; exact ⟨K, (limbs_back_eq K x.1 x.2.1 x.2.2.1 x.2.2.2.1).trans hK⟩)

noncomputable def Γ_limbs_Right : Env := { T := T, Φ := fun i => bif Nat.beq i 29 then some ⟨(.pair (.sl (.int .u32)) .unit), (.pair (.sl (.int .u32)) (.pair (.int .i64) .unit)), [], S.limbs_fits, none⟩ else none, ann := fun i => bif Nat.beq i 7 then [(0, .c (.data (.int .u32))), (1, .c .sc), (6, .c (.own 100 31 (.int .u32))), (23, .c .sc), (24, .c .sc)] else [], ord := fun i => [] }
noncomputable def limbs_Right_c : Code := (Tryd.f52.body).getD .skip
noncomputable def limbs_Right_fin := finish Γ_limbs_Right Tryd.f52.results.toList (.pair (.sl (.int .u32)) (.pair (.int .i64) .unit)) []
noncomputable def limbs_Right_mk0 (a : List Int) (n2 : Int) (out : List Int) (t23 : Int) (t24 : Int) : St := { t := (upd (upd (upd (upd (upd (fun _ => .undef) 0 (.one (.sl (.int .u32) a))) 1 (.one (.int .i64 n2))) 6 (.one (.own 100))) 23 (.one (.int .i64 t23))) 24 (.one (.int .i64 t24))), m := (upd (upd (fun _ => .free) 0 .held) 100 (.row true 31 (.int .u32) out)), nx := 1000000, n := 68 }
theorem limbs_Right_loop0 (K : Nat) : ∀ (n : Nat) (a : List Int) (n2 : Int) (out : List Int) (t23 : Int) (t24 : Int), loopAt Γ_limbs_Right K [.r, .r, .r, .r, .l, .r, .b] limbs_Right_c [] limbs_Right_fin (fun _ _ => none) limbs_Right_fin n (limbs_Right_mk0 a n2 out t23 t24) = limbs_Right_l0 K n a n2 out t23 t24 := by
  intro n
  induction n with
  | zero => intro a n2 out t23 t24; kernel_rfl
  | succ n ih =>
    intro a n2 out t23 t24
    have e : loopAt Γ_limbs_Right K [.r, .r, .r, .r, .l, .r, .b] limbs_Right_c [] limbs_Right_fin (fun _ _ => none) limbs_Right_fin (n + 1) (limbs_Right_mk0 a n2 out t23 t24) = limbs_Right_s0 (fun (a : List Int) (n2 : Int) (out : List Int) (t23 : Int) (t24 : Int) => loopAt Γ_limbs_Right K [.r, .r, .r, .r, .l, .r, .b] limbs_Right_c [] limbs_Right_fin (fun _ _ => none) limbs_Right_fin n (limbs_Right_mk0 a n2 out t23 t24)) a n2 out t23 t24 := by kernel_rfl
    rw [e]
    rw [show (fun (a : List Int) (n2 : Int) (out : List Int) (t23 : Int) (t24 : Int) => loopAt Γ_limbs_Right K [.r, .r, .r, .r, .l, .r, .b] limbs_Right_c [] limbs_Right_fin (fun _ _ => none) limbs_Right_fin n (limbs_Right_mk0 a n2 out t23 t24)) = _ from funext fun a => funext fun n2 => funext fun out => funext fun t23 => funext fun t24 => ih a n2 out t23 t24]
    rfl
theorem limbs_Right_eq (K : Nat) (a : List Int) (n : Int) : exF Γ_limbs_Right K Tryd.f52 (.pair (.sl (.int .u32)) (.pair (.int .i64) .unit)) (.pair (.sl (.int .u32)) (.pair (.int .i64) .unit)) [] (a, n, ()) = limbs_Right K a n := by
  have e : exF Γ_limbs_Right K Tryd.f52 (.pair (.sl (.int .u32)) (.pair (.int .i64) .unit)) (.pair (.sl (.int .u32)) (.pair (.int .i64) .unit)) [] (a, n, ()) = limbs_Right_b (fun (a : List Int) (n2 : Int) (out : List Int) (t23 : Int) (t24 : Int) => loopAt Γ_limbs_Right K [.r, .r, .r, .r, .l, .r, .b] limbs_Right_c [] limbs_Right_fin (fun _ _ => none) limbs_Right_fin K (limbs_Right_mk0 a n2 out t23 t24)) a n := by kernel_rfl
  rw [e]
  rw [show (fun (a : List Int) (n2 : Int) (out : List Int) (t23 : Int) (t24 : Int) => loopAt Γ_limbs_Right K [.r, .r, .r, .r, .l, .r, .b] limbs_Right_c [] limbs_Right_fin (fun _ _ => none) limbs_Right_fin K (limbs_Right_mk0 a n2 out t23 t24)) = _ from funext fun a => funext fun n2 => funext fun out => funext fun t23 => funext fun t24 => limbs_Right_loop0 K K a n2 out t23 t24]
  rfl
theorem env_limbs_Right : EnvOK Tryd.prog G Γ_limbs_Right := ⟨T_ok, ((phi_cons fn_limbs_fits phi_nil) : PhiOK Tryd.prog G Γ_limbs_Right.Φ), fun _ _ h => (by cases h), mixed⟩
theorem fn_limbs_Right : FnOK Tryd.prog G 52 ⟨(.pair (.sl (.int .u32)) (.pair (.int .i64) .unit)), (.pair (.sl (.int .u32)) (.pair (.int .i64) .unit)), [], S.limbs_Right, none⟩ := FnOK.of env_limbs_Right Tryd.func52 (by kernel_rfl) (by kernel_rfl) (of_decide_eq_true (by kernel_rfl)) (fun x y h => by obtain ⟨K, hK⟩ := limbs_Right_ok x y h; exact ⟨K, (limbs_Right_eq K x.1 x.2.1).trans hK⟩)

noncomputable def Γ_limbs_long : Env := { T := T, Φ := fun i => bif Nat.beq i 33 then some ⟨(.pair (.sl (.int .u32)) .unit), (.pair (.sl (.int .u32)) .unit), [], S.limbs_trim, none⟩ else bif Nat.beq i 48 then some ⟨(.pair (.int .u32) .unit), (.pair (.int .i64) .unit), [], S.bits_LeadingZeros32, none⟩ else bif Nat.beq i 49 then some ⟨(.pair (.sl (.int .u32)) (.pair (.int .i64) .unit)), (.pair (.sl (.int .u32)) .unit), [some 31], S.limbs_moved, none⟩ else bif Nat.beq i 50 then some ⟨(.pair (.sl (.int .u32)) (.pair (.int .i64) (.pair (.int .i64) (.pair (.sl (.int .u32)) (.pair (.int .u64) .unit))))), (.pair (.sl (.int .u32)) (.pair .bool .unit)), [], S.limbs_less, some 31⟩ else bif Nat.beq i 51 then some ⟨(.pair (.sl (.int .u32)) (.pair (.int .i64) (.pair (.int .i64) (.pair (.sl (.int .u32)) .unit)))), (.pair (.sl (.int .u32)) .unit), [], S.limbs_back, some 31⟩ else bif Nat.beq i 52 then some ⟨(.pair (.sl (.int .u32)) (.pair (.int .i64) .unit)), (.pair (.sl (.int .u32)) (.pair (.int .i64) .unit)), [], S.limbs_Right, none⟩ else none, ann := fun i => bif Nat.beq i 7 then [(6, .c .sc), (7, .c (.data (.int .u32))), (8, .c (.own 100 31 (.int .u32))), (9, .c (.own 101 31 (.int .u32))), (10, .c .sc), (11, .c .sc)] else bif Nat.beq i 11 then [(6, .c .sc), (7, .c (.data (.int .u32))), (8, .c (.own 100 31 (.int .u32))), (9, .c (.own 101 31 (.int .u32))), (10, .c .sc), (11, .c .sc), (13, .c .sc), (14, .c .sc)] else [], ord := fun i => bif Nat.beq i 9 then [0, 1, 2, 3, 4, 5, 6, 7, 8, 9, 10, 11, 12, 13, 14, 15, 16, 17] else bif Nat.beq i 10 then [0, 1, 2, 3, 4, 5, 6, 7, 8, 9, 10, 11, 12, 13, 14, 15, 16, 17] else bif Nat.beq i 11 then [0, 1, 2, 3, 4, 5, 6, 7, 8, 9, 10, 11, 12, 13, 14, 15, 16, 17, 18, 19, 20, 21, 22, 23, 24] else [] }
noncomputable def limbs_long_c : Code := (Tryd.f32.body).getD .skip
noncomputable def limbs_long_fin := finish Γ_limbs_long Tryd.f32.results.toList (.pair (.sl (.int .u32)) (.pair (.sl (.int .u32)) .unit)) []
noncomputable def limbs_long_mk0 (shift : Int) (v : List Int) (u : List Int) (q : List Int) (n2 : Int) (k : Int) : St := { t := (upd (upd (upd (upd (upd (upd (fun _ => .undef) 6 (.one (.int .i64 shift))) 7 (.one (.sl (.int .u32) v))) 8 (.one (.own 100))) 9 (.one (.own 101))) 10 (.one (.int .i64 n2))) 11 (.one (.int .i64 k))), m := (upd (upd (upd (fun _ => .free) 0 .held) 100 (.row true 31 (.int .u32) u)) 101 (.row true 31 (.int .u32) q)), nx := 1000000, n := 156 }
noncomputable def limbs_long_mk1 (shift : Int) (v : List Int) (u : List Int) (q : List Int) (n2 : Int) (k : Int) (guess : Int) (rest : Int) : St := { t := (upd (upd (upd (upd (upd (upd (upd (upd (fun _ => .undef) 6 (.one (.int .i64 shift))) 7 (.one (.sl (.int .u32) v))) 8 (.one (.own 100))) 9 (.one (.own 101))) 10 (.one (.int .i64 n2))) 11 (.one (.int .i64 k))) 13 (.one (.int .u64 guess))) 14 (.one (.int .u64 rest))), m := (upd (upd (upd (fun _ => .free) 0 .held) 100 (.row true 31 (.int .u32) u)) 101 (.row true 31 (.int .u32) q)), nx := 1000000, n := 156 }
theorem limbs_long_loop1 (K : Nat) (κ0 : St → Option (Den (.pair (.sl (.int .u32)) (.pair (.sl (.int .u32)) .unit)))) : ∀ (n : Nat) (shift : Int) (v : List Int) (u : List Int) (q : List Int) (n2 : Int) (k : Int) (guess : Int) (rest : Int), loopAt Γ_limbs_long K [.r, .r, .r, .r, .r, .r, .l, .r, .b, .c, .r, .l, .b, .r, .r, .l, .b] limbs_long_c [fun st => mask [(6, .c .sc), (7, .c (.data (.int .u32))), (8, .c (.own 100 31 (.int .u32))), (9, .c (.own 101 31 (.int .u32))), (10, .c .sc), (11, .c .sc)] 1000000 st (κ0)] limbs_long_fin (fun _ _ => none) limbs_long_fin n (limbs_long_mk1 shift v u q n2 k guess rest) = limbs_long_l1 K (fun (shift : Int) (v : List Int) (u : List Int) (q : List Int) (n2 : Int) (k : Int) => κ0 (limbs_long_mk0 shift v u q n2 k)) n shift v u q n2 k guess rest := by
  intro n
  induction n with
  | zero => intro shift v u q n2 k guess rest; kernel_rfl
  | succ n ih =>
    intro shift v u q n2 k guess rest
    have e : loopAt Γ_limbs_long K [.r, .r, .r, .r, .r, .r, .l, .r, .b, .c, .r, .l, .b, .r, .r, .l, .b] limbs_long_c [fun st => mask [(6, .c .sc), (7, .c (.data (.int .u32))), (8, .c (.own 100 31 (.int .u32))), (9, .c (.own 101 31 (.int .u32))), (10, .c .sc), (11, .c .sc)] 1000000 st (κ0)] limbs_long_fin (fun _ _ => none) limbs_long_fin (n + 1) (limbs_long_mk1 shift v u q n2 k guess rest) = limbs_long_s1 (fun (shift : Int) (v : List Int) (u : List Int) (q : List Int) (n2 : Int) (k : Int) => κ0 (limbs_long_mk0 shift v u q n2 k)) (fun (shift : Int) (v : List Int) (u : List Int) (q : List Int) (n2 : Int) (k : Int) (guess : Int) (rest : Int) => loopAt Γ_limbs_long K [.r, .r, .r, .r, .r, .r, .l, .r, .b, .c, .r, .l, .b, .r, .r, .l, .b] limbs_long_c [fun st => mask [(6, .c .sc), (7, .c (.data (.int .u32))), (8, .c (.own 100 31 (.int .u32))), (9, .c (.own 101 31 (.int .u32))), (10, .c .sc), (11, .c .sc)] 1000000 st (κ0)] limbs_long_fin (fun _ _ => none) limbs_long_fin n (limbs_long_mk1 shift v u q n2 k guess rest)) shift v u q n2 k guess rest := by kernel_rfl
    rw [e]
    rw [show (fun (shift : Int) (v : List Int) (u : List Int) (q : List Int) (n2 : Int) (k : Int) (guess : Int) (rest : Int) => loopAt Γ_limbs_long K [.r, .r, .r, .r, .r, .r, .l, .r, .b, .c, .r, .l, .b, .r, .r, .l, .b] limbs_long_c [fun st => mask [(6, .c .sc), (7, .c (.data (.int .u32))), (8, .c (.own 100 31 (.int .u32))), (9, .c (.own 101 31 (.int .u32))), (10, .c .sc), (11, .c .sc)] 1000000 st (κ0)] limbs_long_fin (fun _ _ => none) limbs_long_fin n (limbs_long_mk1 shift v u q n2 k guess rest)) = _ from funext fun shift => funext fun v => funext fun u => funext fun q => funext fun n2 => funext fun k => funext fun guess => funext fun rest => ih shift v u q n2 k guess rest]
    rfl
theorem limbs_long_loop0 (K : Nat) : ∀ (n : Nat) (shift : Int) (v : List Int) (u : List Int) (q : List Int) (n2 : Int) (k : Int), loopAt Γ_limbs_long K [.r, .r, .r, .r, .r, .r, .l, .r, .b] limbs_long_c [] limbs_long_fin (fun _ _ => none) limbs_long_fin n (limbs_long_mk0 shift v u q n2 k) = limbs_long_l0 K n shift v u q n2 k := by
  intro n
  induction n with
  | zero => intro shift v u q n2 k; kernel_rfl
  | succ n ih =>
    intro shift v u q n2 k
    have e : loopAt Γ_limbs_long K [.r, .r, .r, .r, .r, .r, .l, .r, .b] limbs_long_c [] limbs_long_fin (fun _ _ => none) limbs_long_fin (n + 1) (limbs_long_mk0 shift v u q n2 k) = limbs_long_s0 (fun (shift : Int) (v : List Int) (u : List Int) (q : List Int) (n2 : Int) (k : Int) (guess : Int) (rest : Int) => loopAt Γ_limbs_long K [.r, .r, .r, .r, .r, .r, .l, .r, .b, .c, .r, .l, .b, .r, .r, .l, .b] limbs_long_c [fun st => mask [(6, .c .sc), (7, .c (.data (.int .u32))), (8, .c (.own 100 31 (.int .u32))), (9, .c (.own 101 31 (.int .u32))), (10, .c .sc), (11, .c .sc)] 1000000 st (loopAt Γ_limbs_long K [.r, .r, .r, .r, .r, .r, .l, .r, .b] limbs_long_c [] limbs_long_fin (fun _ _ => none) limbs_long_fin n)] limbs_long_fin (fun _ _ => none) limbs_long_fin K (limbs_long_mk1 shift v u q n2 k guess rest)) (fun (shift : Int) (v : List Int) (u : List Int) (q : List Int) (n2 : Int) (k : Int) => loopAt Γ_limbs_long K [.r, .r, .r, .r, .r, .r, .l, .r, .b] limbs_long_c [] limbs_long_fin (fun _ _ => none) limbs_long_fin n (limbs_long_mk0 shift v u q n2 k)) shift v u q n2 k := by kernel_rfl
    rw [e]
    rw [show (fun (shift : Int) (v : List Int) (u : List Int) (q : List Int) (n2 : Int) (k : Int) (guess : Int) (rest : Int) => loopAt Γ_limbs_long K [.r, .r, .r, .r, .r, .r, .l, .r, .b, .c, .r, .l, .b, .r, .r, .l, .b] limbs_long_c [fun st => mask [(6, .c .sc), (7, .c (.data (.int .u32))), (8, .c (.own 100 31 (.int .u32))), (9, .c (.own 101 31 (.int .u32))), (10, .c .sc), (11, .c .sc)] 1000000 st (loopAt Γ_limbs_long K [.r, .r, .r, .r, .r, .r, .l, .r, .b] limbs_long_c [] limbs_long_fin (fun _ _ => none) limbs_long_fin n)] limbs_long_fin (fun _ _ => none) limbs_long_fin K (limbs_long_mk1 shift v u q n2 k guess rest)) = _ from funext fun shift => funext fun v => funext fun u => funext fun q => funext fun n2 => funext fun k => funext fun guess => funext fun rest => limbs_long_loop1 K (loopAt Γ_limbs_long K [.r, .r, .r, .r, .r, .r, .l, .r, .b] limbs_long_c [] limbs_long_fin (fun _ _ => none) limbs_long_fin n) K shift v u q n2 k guess rest]
    rw [show (fun (shift : Int) (v : List Int) (u : List Int) (q : List Int) (n2 : Int) (k : Int) => loopAt Γ_limbs_long K [.r, .r, .r, .r, .r, .r, .l, .r, .b] limbs_long_c [] limbs_long_fin (fun _ _ => none) limbs_long_fin n (limbs_long_mk0 shift v u q n2 k)) = _ from funext fun shift => funext fun v => funext fun u => funext fun q => funext fun n2 => funext fun k => ih shift v u q n2 k]
    rfl
theorem limbs_long_eq (K : Nat) (a : List Int) (b : List Int) : exF Γ_limbs_long K Tryd.f32 (.pair (.sl (.int .u32)) (.pair (.sl (.int .u32)) .unit)) (.pair (.sl (.int .u32)) (.pair (.sl (.int .u32)) .unit)) [] (a, b, ()) = limbs_long K a b := by
  have e : exF Γ_limbs_long K Tryd.f32 (.pair (.sl (.int .u32)) (.pair (.sl (.int .u32)) .unit)) (.pair (.sl (.int .u32)) (.pair (.sl (.int .u32)) .unit)) [] (a, b, ()) = limbs_long_b (fun (shift : Int) (v : List Int) (u : List Int) (q : List Int) (n2 : Int) (k : Int) => loopAt Γ_limbs_long K [.r, .r, .r, .r, .r, .r, .l, .r, .b] limbs_long_c [] limbs_long_fin (fun _ _ => none) limbs_long_fin K (limbs_long_mk0 shift v u q n2 k)) a b := by kernel_rfl
  rw [e]
  rw [show (fun (shift : Int) (v : List Int) (u : List Int) (q : List Int) (n2 : Int) (k : Int) => loopAt Γ_limbs_long K [.r, .r, .r, .r, .r, .r, .l, .r, .b] limbs_long_c [] limbs_long_fin (fun _ _ => none) limbs_long_fin K (limbs_long_mk0 shift v u q n2 k)) = _ from funext fun shift => funext fun v => funext fun u => funext fun q => funext fun n2 => funext fun k => limbs_long_loop0 K K shift v u q n2 k]
  rfl
theorem env_limbs_long : EnvOK Tryd.prog G Γ_limbs_long := ⟨T_ok, ((phi_cons fn_limbs_trim (phi_cons fn_bits_LeadingZeros32 (phi_cons fn_limbs_moved (phi_cons fn_limbs_less (phi_cons fn_limbs_back (phi_cons fn_limbs_Right phi_nil)))))) : PhiOK Tryd.prog G Γ_limbs_long.Φ), fun _ _ h => (by cases h), mixed⟩
theorem fn_limbs_long : FnOK Tryd.prog G 32 ⟨(.pair (.sl (.int .u32)) (.pair (.sl (.int .u32)) .unit)), (.pair (.sl (.int .u32)) (.pair (.sl (.int .u32)) .unit)), [], S.limbs_long, none⟩ := FnOK.of env_limbs_long Tryd.func32 (by kernel_rfl) (by kernel_rfl) (of_decide_eq_true (by kernel_rfl)) (fun x y h => by obtain ⟨K, hK⟩ := limbs_long_ok x y h; exact ⟨K, (limbs_long_eq K x.1 x.2.1).trans hK⟩)

noncomputable def Γ_limbs_Div : Env := { T := T, Φ := fun i => bif Nat.beq i 20 then some ⟨(.pair (.int .u64) .unit), (.pair (.sl (.int .u32)) .unit), [], S.limbs_Of, none⟩ else bif Nat.beq i 23 then some ⟨(.pair (.sl (.int .u32)) (.pair (.sl (.int .u32)) .unit)), (.pair (.int .i64) .unit), [], S.limbs_Compare, none⟩ else bif Nat.beq i 30 then some ⟨(.pair (.sl (.int .u32)) .unit), (.pair (.sl (.int .u32)) .unit), [none], S.slices_Clone_api_Nat_uint32, none⟩ else bif Nat.beq i 31 then some ⟨(.pair (.sl (.int .u32)) (.pair (.int .u32) .unit)), (.pair (.sl (.int .u32)) (.pair (.int .u32) .unit)), [], S.limbs_short, none⟩ else bif Nat.beq i 32 then some ⟨(.pair (.sl (.int .u32)) (.pair (.sl (.int .u32)) .unit)), (.pair (.sl (.int .u32)) (.pair (.sl (.int .u32)) .unit)), [], S.limbs_long, none⟩ else none, ann := fun i => [], ord := fun i => [] }
theorem limbs_Div_eq (K : Nat) (a : List Int) (b : List Int) : exF Γ_limbs_Div K Tryd.f18 (.pair (.sl (.int .u32)) (.pair (.sl (.int .u32)) .unit)) (.pair (.sl (.int .u32)) (.pair (.sl (.int .u32)) (.pair (.int .i64) .unit))) [] (a, b, ()) = limbs_Div a b := by kernel_rfl
theorem env_limbs_Div : EnvOK Tryd.prog G Γ_limbs_Div := ⟨T_ok, ((phi_cons fn_limbs_Of (phi_cons fn_limbs_Compare (phi_cons fn_slices_Clone_api_Nat_uint32 (phi_cons fn_limbs_short (phi_cons fn_limbs_long phi_nil))))) : PhiOK Tryd.prog G Γ_limbs_Div.Φ), fun _ _ h => (by cases h), mixed⟩
theorem fn_limbs_Div : FnOK Tryd.prog G 18 ⟨(.pair (.sl (.int .u32)) (.pair (.sl (.int .u32)) .unit)), (.pair (.sl (.int .u32)) (.pair (.sl (.int .u32)) (.pair (.int .i64) .unit))), [], S.limbs_Div, none⟩ := FnOK.of env_limbs_Div Tryd.func18 (by kernel_rfl) (by kernel_rfl) (of_decide_eq_true (by kernel_rfl)) (fun x y h => ⟨0, (limbs_Div_eq 0 x.1 x.2.1).trans h⟩)

noncomputable def Γ_digits_Gcd : Env := { T := T, Φ := fun i => bif Nat.beq i 18 then some ⟨(.pair (.sl (.int .u32)) (.pair (.sl (.int .u32)) .unit)), (.pair (.sl (.int .u32)) (.pair (.sl (.int .u32)) (.pair (.int .i64) .unit))), [], S.limbs_Div, none⟩ else bif Nat.beq i 30 then some ⟨(.pair (.sl (.int .u32)) .unit), (.pair (.sl (.int .u32)) .unit), [none], S.slices_Clone_api_Nat_uint32, none⟩ else none, ann := fun i => bif Nat.beq i 1 then [(0, .c (.data (.int .u32))), (1, .c (.data (.int .u32)))] else [], ord := fun i => [] }
noncomputable def digits_Gcd_c : Code := (Tryd.f17.body).getD .skip
noncomputable def digits_Gcd_fin := finish Γ_digits_Gcd Tryd.f17.results.toList (.pair (.sl (.int .u32)) .unit) []
noncomputable def digits_Gcd_mk0 (a : List Int) (b : List Int) : St := { t := (upd (upd (fun _ => .undef) 0 (.one (.sl (.int .u32) a))) 1 (.one (.sl (.int .u32) b))), m := (upd (fun _ => .free) 0 .held), nx := 1000000, n := 22 }
theorem digits_Gcd_loop0 (K : Nat) : ∀ (n : Nat) (a : List Int) (b : List Int), loopAt Γ_digits_Gcd K [.r, .l, .b] digits_Gcd_c [] digits_Gcd_fin (fun _ _ => none) digits_Gcd_fin n (digits_Gcd_mk0 a b) = digits_Gcd_l0 K n a b := by
  intro n
  induction n with
  | zero => intro a b; kernel_rfl
  | succ n ih =>
    intro a b
    have e : loopAt Γ_digits_Gcd K [.r, .l, .b] digits_Gcd_c [] digits_Gcd_fin (fun _ _ => none) digits_Gcd_fin (n + 1) (digits_Gcd_mk0 a b) = digits_Gcd_s0 (fun (a : List Int) (b : List Int) => loopAt Γ_digits_Gcd K [.r, .l, .b] digits_Gcd_c [] digits_Gcd_fin (fun _ _ => none) digits_Gcd_fin n (digits_Gcd_mk0 a b)) a b := by kernel_rfl
    rw [e]
    rw [show (fun (a : List Int) (b : List Int) => loopAt Γ_digits_Gcd K [.r, .l, .b] digits_Gcd_c [] digits_Gcd_fin (fun _ _ => none) digits_Gcd_fin n (digits_Gcd_mk0 a b)) = _ from funext fun a => funext fun b => ih a b]
    rfl
theorem digits_Gcd_eq (K : Nat) (a : List Int) (b : List Int) : exF Γ_digits_Gcd K Tryd.f17 (.pair (.sl (.int .u32)) (.pair (.sl (.int .u32)) .unit)) (.pair (.sl (.int .u32)) .unit) [] (a, b, ()) = digits_Gcd K a b := by
  have e : exF Γ_digits_Gcd K Tryd.f17 (.pair (.sl (.int .u32)) (.pair (.sl (.int .u32)) .unit)) (.pair (.sl (.int .u32)) .unit) [] (a, b, ()) = digits_Gcd_b (fun (a : List Int) (b : List Int) => loopAt Γ_digits_Gcd K [.r, .l, .b] digits_Gcd_c [] digits_Gcd_fin (fun _ _ => none) digits_Gcd_fin K (digits_Gcd_mk0 a b)) a b := by kernel_rfl
  rw [e]
  rw [show (fun (a : List Int) (b : List Int) => loopAt Γ_digits_Gcd K [.r, .l, .b] digits_Gcd_c [] digits_Gcd_fin (fun _ _ => none) digits_Gcd_fin K (digits_Gcd_mk0 a b)) = _ from funext fun a => funext fun b => digits_Gcd_loop0 K K a b]
  rfl
theorem env_digits_Gcd : EnvOK Tryd.prog G Γ_digits_Gcd := ⟨T_ok, ((phi_cons fn_limbs_Div (phi_cons fn_slices_Clone_api_Nat_uint32 phi_nil)) : PhiOK Tryd.prog G Γ_digits_Gcd.Φ), fun _ _ h => (by cases h), mixed⟩
theorem fn_digits_Gcd : FnOK Tryd.prog G 17 ⟨(.pair (.sl (.int .u32)) (.pair (.sl (.int .u32)) .unit)), (.pair (.sl (.int .u32)) .unit), [], S.digits_Gcd, none⟩ := FnOK.of env_digits_Gcd Tryd.func17 (by kernel_rfl) (by kernel_rfl) (of_decide_eq_true (by kernel_rfl)) (fun x y h => by obtain ⟨K, hK⟩ := digits_Gcd_ok x y h; exact ⟨K, (digits_Gcd_eq K x.1 x.2.1).trans hK⟩)

noncomputable def Γ_slices_Equal_api_Nat_uint32 : Env := { T := T, Φ := fun i => none, ann := fun i => bif Nat.beq i 4 then [(0, .c (.data (.int .u32))), (1, .c (.data (.int .u32))), (12, .c .sc), (13, .c .sc)] else [], ord := fun i => bif Nat.beq i 6 then [0, 1, 2, 3, 4, 5, 6, 7, 8] else [] }
noncomputable def slices_Equal_api_Nat_uint32_c : Code := (Tryd.f19.body).getD .skip
noncomputable def slices_Equal_api_Nat_uint32_fin := finish Γ_slices_Equal_api_Nat_uint32 Tryd.f19.results.toList (.pair .bool .unit) []
noncomputable def slices_Equal_api_Nat_uint32_mk0 (s1 : List Int) (s2 : List Int) (t12 : Int) (t13 : Int) : St := { t := (upd (upd (upd (upd (fun _ => .undef) 0 (.one (.sl (.int .u32) s1))) 1 (.one (.sl (.int .u32) s2))) 12 (.one (.int .i64 t12))) 13 (.one (.int .i64 t13))), m := (upd (fun _ => .free) 0 .held), nx := 1000000, n := 26 }
theorem slices_Equal_api_Nat_uint32_loop0 (K : Nat) : ∀ (n : Nat) (s1 : List Int) (s2 : List Int) (t12 : Int) (t13 : Int), loopAt Γ_slices_Equal_api_Nat_uint32 K [.r, .r, .l, .r, .b] slices_Equal_api_Nat_uint32_c [] slices_Equal_api_Nat_uint32_fin (fun _ _ => none) slices_Equal_api_Nat_uint32_fin n (slices_Equal_api_Nat_uint32_mk0 s1 s2 t12 t13) = slices_Equal_api_Nat_uint32_l0 K n s1 s2 t12 t13 := by
  intro n
  induction n with
  | zero => intro s1 s2 t12 t13; kernel_rfl
  | succ n ih =>
    intro s1 s2 t12 t13
    have e : loopAt Γ_slices_Equal_api_Nat_uint32 K [.r, .r, .l, .r, .b] slices_Equal_api_Nat_uint32_c [] slices_Equal_api_Nat_uint32_fin (fun _ _ => none) slices_Equal_api_Nat_uint32_fin (n + 1) (slices_Equal_api_Nat_uint32_mk0 s1 s2 t12 t13) = slices_Equal_api_Nat_uint32_s0 (fun (s1 : List Int) (s2 : List Int) (t12 : Int) (t13 : Int) => loopAt Γ_slices_Equal_api_Nat_uint32 K [.r, .r, .l, .r, .b] slices_Equal_api_Nat_uint32_c [] slices_Equal_api_Nat_uint32_fin (fun _ _ => none) slices_Equal_api_Nat_uint32_fin n (slices_Equal_api_Nat_uint32_mk0 s1 s2 t12 t13)) s1 s2 t12 t13 := by kernel_rfl
    rw [e]
    rw [show (fun (s1 : List Int) (s2 : List Int) (t12 : Int) (t13 : Int) => loopAt Γ_slices_Equal_api_Nat_uint32 K [.r, .r, .l, .r, .b] slices_Equal_api_Nat_uint32_c [] slices_Equal_api_Nat_uint32_fin (fun _ _ => none) slices_Equal_api_Nat_uint32_fin n (slices_Equal_api_Nat_uint32_mk0 s1 s2 t12 t13)) = _ from funext fun s1 => funext fun s2 => funext fun t12 => funext fun t13 => ih s1 s2 t12 t13]
    rfl
theorem slices_Equal_api_Nat_uint32_eq (K : Nat) (s1 : List Int) (s2 : List Int) : exF Γ_slices_Equal_api_Nat_uint32 K Tryd.f19 (.pair (.sl (.int .u32)) (.pair (.sl (.int .u32)) .unit)) (.pair .bool .unit) [] (s1, s2, ()) = slices_Equal_api_Nat_uint32 K s1 s2 := by
  have e : exF Γ_slices_Equal_api_Nat_uint32 K Tryd.f19 (.pair (.sl (.int .u32)) (.pair (.sl (.int .u32)) .unit)) (.pair .bool .unit) [] (s1, s2, ()) = slices_Equal_api_Nat_uint32_b (fun (s1 : List Int) (s2 : List Int) (t12 : Int) (t13 : Int) => loopAt Γ_slices_Equal_api_Nat_uint32 K [.r, .r, .l, .r, .b] slices_Equal_api_Nat_uint32_c [] slices_Equal_api_Nat_uint32_fin (fun _ _ => none) slices_Equal_api_Nat_uint32_fin K (slices_Equal_api_Nat_uint32_mk0 s1 s2 t12 t13)) s1 s2 := by kernel_rfl
  rw [e]
  rw [show (fun (s1 : List Int) (s2 : List Int) (t12 : Int) (t13 : Int) => loopAt Γ_slices_Equal_api_Nat_uint32 K [.r, .r, .l, .r, .b] slices_Equal_api_Nat_uint32_c [] slices_Equal_api_Nat_uint32_fin (fun _ _ => none) slices_Equal_api_Nat_uint32_fin K (slices_Equal_api_Nat_uint32_mk0 s1 s2 t12 t13)) = _ from funext fun s1 => funext fun s2 => funext fun t12 => funext fun t13 => slices_Equal_api_Nat_uint32_loop0 K K s1 s2 t12 t13]
  rfl
theorem env_slices_Equal_api_Nat_uint32 : EnvOK Tryd.prog G Γ_slices_Equal_api_Nat_uint32 := ⟨T_ok, (phi_nil : PhiOK Tryd.prog G Γ_slices_Equal_api_Nat_uint32.Φ), fun _ _ h => (by cases h), mixed⟩
theorem fn_slices_Equal_api_Nat_uint32 : FnOK Tryd.prog G 19 ⟨(.pair (.sl (.int .u32)) (.pair (.sl (.int .u32)) .unit)), (.pair .bool .unit), [], S.slices_Equal_api_Nat_uint32, none⟩ := FnOK.of env_slices_Equal_api_Nat_uint32 Tryd.func19 (by kernel_rfl) (by kernel_rfl) (of_decide_eq_true (by kernel_rfl)) (fun x y h => by obtain ⟨K, hK⟩ := slices_Equal_api_Nat_uint32_ok x y h; exact ⟨K, (slices_Equal_api_Nat_uint32_eq K x.1 x.2.1).trans hK⟩)

noncomputable def Γ_limbs_Small : Env := { T := T, Φ := fun i => none, ann := fun i => bif Nat.beq i 5 then [(4, .c .sc), (10, .c (.data (.int .u32))), (11, .c .sc), (12, .c .sc)] else [], ord := fun i => [] }
noncomputable def limbs_Small_c : Code := (Tryd.f34.body).getD .skip
noncomputable def limbs_Small_fin := finish Γ_limbs_Small Tryd.f34.results.toList (.pair (.int .u64) (.pair (.int .i64) .unit)) []
noncomputable def limbs_Small_mk0 (n2 : Int) (t10 : List Int) (t11 : Int) (t12 : Int) : St := { t := (upd (upd (upd (upd (fun _ => .undef) 4 (.one (.int .u64 n2))) 10 (.one (.sl (.int .u32) t10))) 11 (.one (.int .i64 t11))) 12 (.one (.int .i64 t12))), m := (upd (fun _ => .free) 0 .held), nx := 1000000, n := 26 }
theorem limbs_Small_loop0 (K : Nat) : ∀ (n : Nat) (n2 : Int) (t10 : List Int) (t11 : Int) (t12 : Int), loopAt Γ_limbs_Small K [.r, .r, .r, .l, .r, .b] limbs_Small_c [] limbs_Small_fin (fun _ _ => none) limbs_Small_fin n (limbs_Small_mk0 n2 t10 t11 t12) = limbs_Small_l0 K n n2 t10 t11 t12 := by
  intro n
  induction n with
  | zero => intro n2 t10 t11 t12; kernel_rfl
  | succ n ih =>
    intro n2 t10 t11 t12
    have e : loopAt Γ_limbs_Small K [.r, .r, .r, .l, .r, .b] limbs_Small_c [] limbs_Small_fin (fun _ _ => none) limbs_Small_fin (n + 1) (limbs_Small_mk0 n2 t10 t11 t12) = limbs_Small_s0 (fun (n2 : Int) (t10 : List Int) (t11 : Int) (t12 : Int) => loopAt Γ_limbs_Small K [.r, .r, .r, .l, .r, .b] limbs_Small_c [] limbs_Small_fin (fun _ _ => none) limbs_Small_fin n (limbs_Small_mk0 n2 t10 t11 t12)) n2 t10 t11 t12 := by kernel_rfl
    rw [e]
    rw [show (fun (n2 : Int) (t10 : List Int) (t11 : Int) (t12 : Int) => loopAt Γ_limbs_Small K [.r, .r, .r, .l, .r, .b] limbs_Small_c [] limbs_Small_fin (fun _ _ => none) limbs_Small_fin n (limbs_Small_mk0 n2 t10 t11 t12)) = _ from funext fun n2 => funext fun t10 => funext fun t11 => funext fun t12 => ih n2 t10 t11 t12]
    rfl
theorem limbs_Small_eq (K : Nat) (a : List Int) : exF Γ_limbs_Small K Tryd.f34 (.pair (.sl (.int .u32)) .unit) (.pair (.int .u64) (.pair (.int .i64) .unit)) [] (a, ()) = limbs_Small K a := by
  have e : exF Γ_limbs_Small K Tryd.f34 (.pair (.sl (.int .u32)) .unit) (.pair (.int .u64) (.pair (.int .i64) .unit)) [] (a, ()) = limbs_Small_b (fun (n2 : Int) (t10 : List Int) (t11 : Int) (t12 : Int) => loopAt Γ_limbs_Small K [.r, .r, .r, .l, .r, .b] limbs_Small_c [] limbs_Small_fin (fun _ _ => none) limbs_Small_fin K (limbs_Small_mk0 n2 t10 t11 t12)) a := by kernel_rfl
  rw [e]
  rw [show (fun (n2 : Int) (t10 : List Int) (t11 : Int) (t12 : Int) => loopAt Γ_limbs_Small K [.r, .r, .r, .l, .r, .b] limbs_Small_c [] limbs_Small_fin (fun _ _ => none) limbs_Small_fin K (limbs_Small_mk0 n2 t10 t11 t12)) = _ from funext fun n2 => funext fun t10 => funext fun t11 => funext fun t12 => limbs_Small_loop0 K K n2 t10 t11 t12]
  rfl
theorem env_limbs_Small : EnvOK Tryd.prog G Γ_limbs_Small := ⟨T_ok, (phi_nil : PhiOK Tryd.prog G Γ_limbs_Small.Φ), fun _ _ h => (by cases h), mixed⟩
theorem fn_limbs_Small : FnOK Tryd.prog G 34 ⟨(.pair (.sl (.int .u32)) .unit), (.pair (.int .u64) (.pair (.int .i64) .unit)), [], S.limbs_Small, none⟩ := FnOK.of env_limbs_Small Tryd.func34 (by kernel_rfl) (by kernel_rfl) (of_decide_eq_true (by kernel_rfl)) (fun x y h => by obtain ⟨K, hK⟩ := limbs_Small_ok x y h; exact ⟨K, (limbs_Small_eq K x.1).trans hK⟩)

noncomputable def Γ_slices_Reverse_s_byte_byte : Env := { T := T, Φ := fun i => none, ann := fun i => bif Nat.beq i 1 then [(0, .c .win), (2, .c .sc), (3, .c .sc)] else [], ord := fun i => bif Nat.beq i 3 then [0, 1, 2, 3, 4, 5, 6, 7, 8, 9, 10, 11, 12, 13, 14, 15] else [] }
noncomputable def slices_Reverse_s_byte_byte_c : Code := (Tryd.f35.body).getD .skip
noncomputable def slices_Reverse_s_byte_byte_fin := finishW Γ_slices_Reverse_s_byte_byte 5 Tryd.f35.results.toList (.pair (.sl (.int .u8)) .unit) []
noncomputable def slices_Reverse_s_byte_byte_mk0 (s : List Int) (off : Nat) (len : Nat) (i : Int) (j : Int) : St := { t := (upd (upd (upd (fun _ => .undef) 0 (.one (.sub 0 off len))) 2 (.one (.int .i64 i))) 3 (.one (.int .i64 j))), m := (upd (upd (fun _ => .free) 0 .held) 0 (.row true 5 (.int .u8) s)), nx := 1000000, n := 28 }
theorem slices_Reverse_s_byte_byte_loop0 (K : Nat) : ∀ (n : Nat) (s : List Int) (off : Nat) (len : Nat) (i : Int) (j : Int), loopAt Γ_slices_Reverse_s_byte_byte K [.r, .b] slices_Reverse_s_byte_byte_c [] slices_Reverse_s_byte_byte_fin (fun _ _ => none) slices_Reverse_s_byte_byte_fin n (slices_Reverse_s_byte_byte_mk0 s off len i j) = slices_Reverse_s_byte_byte_l0 K n s off len i j := by
  intro n
  induction n with
  | zero => intro s off len i j; kernel_rfl
  | succ n ih =>
    intro s off len i j
    have e : loopAt Γ_slices_Reverse_s_byte_byte K [.r, .b] slices_Reverse_s_byte_byte_c [] slices_Reverse_s_byte_byte_fin (fun _ _ => none) slices_Reverse_s_byte_byte_fin (n + 1) (slices_Reverse_s_byte_byte_mk0 s off len i j) = slices_Reverse_s_byte_byte_s0 (fun (s : List Int) (off : Nat) (len : Nat) (i : Int) (j : Int) => loopAt Γ_slices_Reverse_s_byte_byte K [.r, .b] slices_Reverse_s_byte_byte_c [] slices_Reverse_s_byte_byte_fin (fun _ _ => none) slices_Reverse_s_byte_byte_fin n (slices_Reverse_s_byte_byte_mk0 s off len i j)) s off len i j := by kernel_rfl
    rw [e]
    rw [show (fun (s : List Int) (off : Nat) (len : Nat) (i : Int) (j : Int) => loopAt Γ_slices_Reverse_s_byte_byte K [.r, .b] slices_Reverse_s_byte_byte_c [] slices_Reverse_s_byte_byte_fin (fun _ _ => none) slices_Reverse_s_byte_byte_fin n (slices_Reverse_s_byte_byte_mk0 s off len i j)) = _ from funext fun s => funext fun off => funext fun len => funext fun i => funext fun j => ih s off len i j]
    rfl
theorem slices_Reverse_s_byte_byte_eq (K : Nat) (s : List Int) (off : Int) (len : Int) : exW Γ_slices_Reverse_s_byte_byte K Tryd.f35 5 (.pair (.sl (.int .u8)) (.pair (.int .i64) (.pair (.int .i64) .unit))) (.pair (.sl (.int .u8)) .unit) [] (s, off, len, ()) = slices_Reverse_s_byte_byte K s off len := by
  have e : exW Γ_slices_Reverse_s_byte_byte K Tryd.f35 5 (.pair (.sl (.int .u8)) (.pair (.int .i64) (.pair (.int .i64) .unit))) (.pair (.sl (.int .u8)) .unit) [] (s, off, len, ()) = slices_Reverse_s_byte_byte_b (fun (s : List Int) (off : Nat) (len : Nat) (i : Int) (j : Int) => loopAt Γ_slices_Reverse_s_byte_byte K [.r, .b] slices_Reverse_s_byte_byte_c [] slices_Reverse_s_byte_byte_fin (fun _ _ => none) slices_Reverse_s_byte_byte_fin K (slices_Reverse_s_byte_byte_mk0 s off len i j)) s off len := by kernel_rfl
  rw [e]
  rw [show (fun (s : List Int) (off : Nat) (len : Nat) (i : Int) (j : Int) => loopAt Γ_slices_Reverse_s_byte_byte K [.r, .b] slices_Reverse_s_byte_byte_c [] slices_Reverse_s_byte_byte_fin (fun _ _ => none) slices_Reverse_s_byte_byte_fin K (slices_Reverse_s_byte_byte_mk0 s off len i j)) = _ from funext fun s => funext fun off => funext fun len => funext fun i => funext fun j => slices_Reverse_s_byte_byte_loop0 K K s off len i j]
  rfl
theorem env_slices_Reverse_s_byte_byte : EnvOK Tryd.prog G Γ_slices_Reverse_s_byte_byte := ⟨T_ok, (phi_nil : PhiOK Tryd.prog G Γ_slices_Reverse_s_byte_byte.Φ), fun _ _ h => (by cases h), mixed⟩
theorem fn_slices_Reverse_s_byte_byte : FnOK Tryd.prog G 35 ⟨(.pair (.sl (.int .u8)) (.pair (.int .i64) (.pair (.int .i64) .unit))), (.pair (.sl (.int .u8)) .unit), [], S.slices_Reverse_s_byte_byte, some 5⟩ := FnOK.ofW env_slices_Reverse_s_byte_byte Tryd.func35 (by kernel_rfl) (by kernel_rfl) (of_decide_eq_true (by kernel_rfl)) slices_Reverse_s_byte_byte_len (fun x y h => by obtain ⟨K, hK⟩ := slices_Reverse_s_byte_byte_ok x y h; exact ⟨K, (slices_Reverse_s_byte_byte_eq K x.1 x.2.1 x.2.2.1).trans hK⟩)

noncomputable def Γ_strings_trimLeftByte : Env := { T := T, Φ := fun i => none, ann := fun i => bif Nat.beq i 1 then [(0, .c .sc), (1, .c .sc)] else [], ord := fun i => [] }
noncomputable def strings_trimLeftByte_c : Code := (Tryd.f53.body).getD .skip
noncomputable def strings_trimLeftByte_fin := finish Γ_strings_trimLeftByte Tryd.f53.results.toList (.pair .str .unit) []
noncomputable def strings_trimLeftByte_mk0 (s : ByteArray) (c : Int) : St := { t := (upd (upd (fun _ => .undef) 0 (.one (.str s))) 1 (.one (.int .u8 c))), m := (upd (fun _ => .free) 0 .held), nx := 1000000, n := 17 }
theorem strings_trimLeftByte_loop0 (K : Nat) : ∀ (n : Nat) (s : ByteArray) (c : Int), loopAt Γ_strings_trimLeftByte K [.r, .l, .b] strings_trimLeftByte_c [] strings_trimLeftByte_fin (fun _ _ => none) strings_trimLeftByte_fin n (strings_trimLeftByte_mk0 s c) = strings_trimLeftByte_l0 K n s c := by
  intro n
  induction n with
  | zero => intro s c; kernel_rfl
  | succ n ih =>
    intro s c
    have e : loopAt Γ_strings_trimLeftByte K [.r, .l, .b] strings_trimLeftByte_c [] strings_trimLeftByte_fin (fun _ _ => none) strings_trimLeftByte_fin (n + 1) (strings_trimLeftByte_mk0 s c) = strings_trimLeftByte_s0 (fun (s : ByteArray) (c : Int) => loopAt Γ_strings_trimLeftByte K [.r, .l, .b] strings_trimLeftByte_c [] strings_trimLeftByte_fin (fun _ _ => none) strings_trimLeftByte_fin n (strings_trimLeftByte_mk0 s c)) s c := by kernel_rfl
    rw [e]
    rw [show (fun (s : ByteArray) (c : Int) => loopAt Γ_strings_trimLeftByte K [.r, .l, .b] strings_trimLeftByte_c [] strings_trimLeftByte_fin (fun _ _ => none) strings_trimLeftByte_fin n (strings_trimLeftByte_mk0 s c)) = _ from funext fun s => funext fun c => ih s c]
    rfl
theorem strings_trimLeftByte_eq (K : Nat) (s : ByteArray) (c : Int) : exF Γ_strings_trimLeftByte K Tryd.f53 (.pair .str (.pair (.int .u8) .unit)) (.pair .str .unit) [] (s, c, ()) = strings_trimLeftByte K s c := by
  have e : exF Γ_strings_trimLeftByte K Tryd.f53 (.pair .str (.pair (.int .u8) .unit)) (.pair .str .unit) [] (s, c, ()) = strings_trimLeftByte_b (fun (s : ByteArray) (c : Int) => loopAt Γ_strings_trimLeftByte K [.r, .l, .b] strings_trimLeftByte_c [] strings_trimLeftByte_fin (fun _ _ => none) strings_trimLeftByte_fin K (strings_trimLeftByte_mk0 s c)) s c := by kernel_rfl
  rw [e]
  rw [show (fun (s : ByteArray) (c : Int) => loopAt Γ_strings_trimLeftByte K [.r, .l, .b] strings_trimLeftByte_c [] strings_trimLeftByte_fin (fun _ _ => none) strings_trimLeftByte_fin K (strings_trimLeftByte_mk0 s c)) = _ from funext fun s => funext fun c => strings_trimLeftByte_loop0 K K s c]
  rfl
theorem env_strings_trimLeftByte : EnvOK Tryd.prog G Γ_strings_trimLeftByte := ⟨T_ok, (phi_nil : PhiOK Tryd.prog G Γ_strings_trimLeftByte.Φ), fun _ _ h => (by cases h), mixed⟩
theorem fn_strings_trimLeftByte : FnOK Tryd.prog G 53 ⟨(.pair .str (.pair (.int .u8) .unit)), (.pair .str .unit), [], S.strings_trimLeftByte, none⟩ := FnOK.of env_strings_trimLeftByte Tryd.func53 (by kernel_rfl) (by kernel_rfl) (of_decide_eq_true (by kernel_rfl)) (fun x y h => by obtain ⟨K, hK⟩ := strings_trimLeftByte_ok x y h; exact ⟨K, (strings_trimLeftByte_eq K x.1 x.2.1).trans hK⟩)

theorem fn_strings_makeASCIISet : FnOK Tryd.prog G 54 ⟨.unit, .unit, [], fun _ => none, none⟩ := FnOK.dead Tryd.func54 (by kernel_rfl) (by kernel_rfl)

noncomputable def Γ_strings_TrimLeft : Env := { T := T, Φ := fun i => bif Nat.beq i 53 then some ⟨(.pair .str (.pair (.int .u8) .unit)), (.pair .str .unit), [], S.strings_trimLeftByte, none⟩ else bif Nat.beq i 54 then some ⟨.unit, .unit, [], (fun _ => none), none⟩ else none, ann := fun i => [], ord := fun i => [] }
theorem strings_TrimLeft_eq (K : Nat) (s : ByteArray) (cutset : ByteArray) : exF Γ_strings_TrimLeft K Tryd.f36 (.pair .str (.pair .str .unit)) (.pair .str .unit) [] (s, cutset, ()) = strings_TrimLeft s cutset := by kernel_rfl
theorem env_strings_TrimLeft : EnvOK Tryd.prog G Γ_strings_TrimLeft := ⟨T_ok, ((phi_cons fn_strings_trimLeftByte (phi_cons fn_strings_makeASCIISet phi_nil)) : PhiOK Tryd.prog G Γ_strings_TrimLeft.Φ), fun _ _ h => (by cases h), mixed⟩
theorem fn_strings_TrimLeft : FnOK Tryd.prog G 36 ⟨(.pair .str (.pair .str .unit)), (.pair .str .unit), [], S.strings_TrimLeft, none⟩ := FnOK.of env_strings_TrimLeft Tryd.func36 (by kernel_rfl) (by kernel_rfl) (of_decide_eq_true (by kernel_rfl)) (fun x y h => ⟨0, (strings_TrimLeft_eq 0 x.1 x.2.1).trans h⟩)

noncomputable def Γ_digits_Text : Env := { T := T, Φ := fun i => bif Nat.beq i 18 then some ⟨(.pair (.sl (.int .u32)) (.pair (.sl (.int .u32)) .unit)), (.pair (.sl (.int .u32)) (.pair (.sl (.int .u32)) (.pair (.int .i64) .unit))), [], S.limbs_Div, none⟩ else bif Nat.beq i 20 then some ⟨(.pair (.int .u64) .unit), (.pair (.sl (.int .u32)) .unit), [], S.limbs_Of, none⟩ else bif Nat.beq i 34 then some ⟨(.pair (.sl (.int .u32)) .unit), (.pair (.int .u64) (.pair (.int .i64) .unit)), [], S.limbs_Small, none⟩ else bif Nat.beq i 35 then some ⟨(.pair (.sl (.int .u8)) (.pair (.int .i64) (.pair (.int .i64) .unit))), (.pair (.sl (.int .u8)) .unit), [], S.slices_Reverse_s_byte_byte, some 5⟩ else bif Nat.beq i 36 then some ⟨(.pair .str (.pair .str .unit)), (.pair .str .unit), [], S.strings_TrimLeft, none⟩ else none, ann := fun i => bif Nat.beq i 4 then [(0, .c (.data (.int .u32))), (3, .c (.own 100 5 (.int .u8)))] else bif Nat.beq i 8 then [(3, .c (.own 100 5 (.int .u8))), (4, .c (.data (.int .u32))), (7, .c .sc), (27, .c .sc)] else [], ord := fun i => [] }
noncomputable def digits_Text_c : Code := (Tryd.f21.body).getD .skip
noncomputable def digits_Text_fin := finish Γ_digits_Text Tryd.f21.results.toList (.pair .str .unit) []
noncomputable def digits_Text_mk0 (a : List Int) (out : List Int) : St := { t := (upd (upd (fun _ => .undef) 0 (.one (.sl (.int .u32) a))) 3 (.one (.own 100))), m := (upd (upd (fun _ => .free) 0 .held) 100 (.row true 5 (.int .u8) out)), nx := 1000000, n := 45 }
noncomputable def digits_Text_mk1 (out : List Int) (q : List Int) (n2 : Int) (t27 : Int) : St := { t := (upd (upd (upd (upd (fun _ => .undef) 3 (.one (.own 100))) 4 (.one (.sl (.int .u32) q))) 7 (.one (.int .u64 n2))) 27 (.one (.int .i64 t27))), m := (upd (upd (fun _ => .free) 0 .held) 100 (.row true 5 (.int .u8) out)), nx := 1000000, n := 45 }
theorem digits_Text_loop1 (K : Nat) (κ0 : St → Option (Den (.pair .str .unit))) : ∀ (n : Nat) (out : List Int) (q : List Int) (n2 : Int) (t27 : Int), loopAt Γ_digits_Text K [.r, .r, .r, .l, .b, .c, .r, .b, .r, .r, .l, .r, .b] digits_Text_c [fun st => mask [(0, .c (.data (.int .u32))), (3, .c (.own 100 5 (.int .u8)))] 1000000 st (κ0)] digits_Text_fin (fun _ _ => none) digits_Text_fin n (digits_Text_mk1 out q n2 t27) = digits_Text_l1 K (fun (a : List Int) (out : List Int) => κ0 (digits_Text_mk0 a out)) n out q n2 t27 := by
  intro n
  induction n with
  | zero => intro out q n2 t27; kernel_rfl
  | succ n ih =>
    intro out q n2 t27
    have e : loopAt Γ_digits_Text K [.r, .r, .r, .l, .b, .c, .r, .b, .r, .r, .l, .r, .b] digits_Text_c [fun st => mask [(0, .c (.data (.int .u32))), (3, .c (.own 100 5 (.int .u8)))] 1000000 st (κ0)] digits_Text_fin (fun _ _ => none) digits_Text_fin (n + 1) (digits_Text_mk1 out q n2 t27) = digits_Text_s1 (fun (a : List Int) (out : List Int) => κ0 (digits_Text_mk0 a out)) (fun (out : List Int) (q : List Int) (n2 : Int) (t27 : Int) => loopAt Γ_digits_Text K [.r, .r, .r, .l, .b, .c, .r, .b, .r, .r, .l, .r, .b] digits_Text_c [fun st => mask [(0, .c (.data (.int .u32))), (3, .c (.own 100 5 (.int .u8)))] 1000000 st (κ0)] digits_Text_fin (fun _ _ => none) digits_Text_fin n (digits_Text_mk1 out q n2 t27)) out q n2 t27 := by kernel_rfl
    rw [e]
    rw [show (fun (out : List Int) (q : List Int) (n2 : Int) (t27 : Int) => loopAt Γ_digits_Text K [.r, .r, .r, .l, .b, .c, .r, .b, .r, .r, .l, .r, .b] digits_Text_c [fun st => mask [(0, .c (.data (.int .u32))), (3, .c (.own 100 5 (.int .u8)))] 1000000 st (κ0)] digits_Text_fin (fun _ _ => none) digits_Text_fin n (digits_Text_mk1 out q n2 t27)) = _ from funext fun out => funext fun q => funext fun n2 => funext fun t27 => ih out q n2 t27]
    rfl
theorem digits_Text_loop0 (K : Nat) : ∀ (n : Nat) (a : List Int) (out : List Int), loopAt Γ_digits_Text K [.r, .r, .r, .l, .b] digits_Text_c [] digits_Text_fin (fun _ _ => none) digits_Text_fin n (digits_Text_mk0 a out) = digits_Text_l0 K n a out := by
  intro n
  induction n with
  | zero => intro a out; kernel_rfl
  | succ n ih =>
    intro a out
    have e : loopAt Γ_digits_Text K [.r, .r, .r, .l, .b] digits_Text_c [] digits_Text_fin (fun _ _ => none) digits_Text_fin (n + 1) (digits_Text_mk0 a out) = digits_Text_s0 (fun (out : List Int) (q : List Int) (n2 : Int) (t27 : Int) => loopAt Γ_digits_Text K [.r, .r, .r, .l, .b, .c, .r, .b, .r, .r, .l, .r, .b] digits_Text_c [fun st => mask [(0, .c (.data (.int .u32))), (3, .c (.own 100 5 (.int .u8)))] 1000000 st (loopAt Γ_digits_Text K [.r, .r, .r, .l, .b] digits_Text_c [] digits_Text_fin (fun _ _ => none) digits_Text_fin n)] digits_Text_fin (fun _ _ => none) digits_Text_fin K (digits_Text_mk1 out q n2 t27)) (fun (a : List Int) (out : List Int) => loopAt Γ_digits_Text K [.r, .r, .r, .l, .b] digits_Text_c [] digits_Text_fin (fun _ _ => none) digits_Text_fin n (digits_Text_mk0 a out)) a out := by kernel_rfl
    rw [e]
    rw [show (fun (out : List Int) (q : List Int) (n2 : Int) (t27 : Int) => loopAt Γ_digits_Text K [.r, .r, .r, .l, .b, .c, .r, .b, .r, .r, .l, .r, .b] digits_Text_c [fun st => mask [(0, .c (.data (.int .u32))), (3, .c (.own 100 5 (.int .u8)))] 1000000 st (loopAt Γ_digits_Text K [.r, .r, .r, .l, .b] digits_Text_c [] digits_Text_fin (fun _ _ => none) digits_Text_fin n)] digits_Text_fin (fun _ _ => none) digits_Text_fin K (digits_Text_mk1 out q n2 t27)) = _ from funext fun out => funext fun q => funext fun n2 => funext fun t27 => digits_Text_loop1 K (loopAt Γ_digits_Text K [.r, .r, .r, .l, .b] digits_Text_c [] digits_Text_fin (fun _ _ => none) digits_Text_fin n) K out q n2 t27]
    rw [show (fun (a : List Int) (out : List Int) => loopAt Γ_digits_Text K [.r, .r, .r, .l, .b] digits_Text_c [] digits_Text_fin (fun _ _ => none) digits_Text_fin n (digits_Text_mk0 a out)) = _ from funext fun a => funext fun out => ih a out]
    rfl
theorem digits_Text_eq (K : Nat) (a : List Int) : exF Γ_digits_Text K Tryd.f21 (.pair (.sl (.int .u32)) .unit) (.pair .str .unit) [] (a, ()) = digits_Text K a := by
  have e : exF Γ_digits_Text K Tryd.f21 (.pair (.sl (.int .u32)) .unit) (.pair .str .unit) [] (a, ()) = digits_Text_b (fun (a : List Int) (out : List Int) => loopAt Γ_digits_Text K [.r, .r, .r, .l, .b] digits_Text_c [] digits_Text_fin (fun _ _ => none) digits_Text_fin K (digits_Text_mk0 a out)) a := by kernel_rfl
  rw [e]
  rw [show (fun (a : List Int) (out : List Int) => loopAt Γ_digits_Text K [.r, .r, .r, .l, .b] digits_Text_c [] digits_Text_fin (fun _ _ => none) digits_Text_fin K (digits_Text_mk0 a out)) = _ from funext fun a => funext fun out => digits_Text_loop0 K K a out]
  rfl
theorem env_digits_Text : EnvOK Tryd.prog G Γ_digits_Text := ⟨T_ok, ((phi_cons fn_limbs_Div (phi_cons fn_limbs_Of (phi_cons fn_limbs_Small (phi_cons fn_slices_Reverse_s_byte_byte (phi_cons fn_strings_TrimLeft phi_nil))))) : PhiOK Tryd.prog G Γ_digits_Text.Φ), fun _ _ h => (by cases h), mixed⟩
theorem fn_digits_Text : FnOK Tryd.prog G 21 ⟨(.pair (.sl (.int .u32)) .unit), (.pair .str .unit), [], S.digits_Text, none⟩ := FnOK.of env_digits_Text Tryd.func21 (by kernel_rfl) (by kernel_rfl) (of_decide_eq_true (by kernel_rfl)) (fun x y h => by obtain ⟨K, hK⟩ := digits_Text_ok x y h; exact ⟨K, (digits_Text_eq K x.1).trans hK⟩)

noncomputable def Γ_digits_power : Env := { T := T, Φ := fun i => bif Nat.beq i 16 then some ⟨(.pair (.sl (.int .u32)) (.pair (.sl (.int .u32)) .unit)), (.pair (.sl (.int .u32)) (.pair (.int .i64) .unit)), [], S.limbs_Mul, none⟩ else bif Nat.beq i 20 then some ⟨(.pair (.int .u64) .unit), (.pair (.sl (.int .u32)) .unit), [], S.limbs_Of, none⟩ else none, ann := fun i => bif Nat.beq i 6 then [(0, .c (.data (.int .u32))), (1, .c .sc), (6, .c (.data (.int .u32))), (8, .c .sc)] else [], ord := fun i => [] }
noncomputable def digits_power_c : Code := (Tryd.f37.body).getD .skip
noncomputable def digits_power_fin := finish Γ_digits_power Tryd.f37.results.toList (.pair (.sl (.int .u32)) (.pair (.int .i64) .unit)) []
noncomputable def digits_power_mk0 (a : List Int) (n2 : Int) (out : List Int) (bit : Int) : St := { t := (upd (upd (upd (upd (fun _ => .undef) 0 (.one (.sl (.int .u32) a))) 1 (.one (.int .i64 n2))) 6 (.one (.sl (.int .u32) out))) 8 (.one (.int .i64 bit))), m := (upd (fun _ => .free) 0 .held), nx := 1000000, n := 39 }
theorem digits_power_loop0 (K : Nat) : ∀ (n : Nat) (a : List Int) (n2 : Int) (out : List Int) (bit : Int), loopAt Γ_digits_power K [.r, .r, .r, .r, .l, .r, .b] digits_power_c [] digits_power_fin (fun _ _ => none) digits_power_fin n (digits_power_mk0 a n2 out bit) = digits_power_l0 K n a n2 out bit := by
  intro n
  induction n with
  | zero => intro a n2 out bit; kernel_rfl
  | succ n ih =>
    intro a n2 out bit
    have e : loopAt Γ_digits_power K [.r, .r, .r, .r, .l, .r, .b] digits_power_c [] digits_power_fin (fun _ _ => none) digits_power_fin (n + 1) (digits_power_mk0 a n2 out bit) = digits_power_s0 (fun (a : List Int) (n2 : Int) (out : List Int) (bit : Int) => loopAt Γ_digits_power K [.r, .r, .r, .r, .l, .r, .b] digits_power_c [] digits_power_fin (fun _ _ => none) digits_power_fin n (digits_power_mk0 a n2 out bit)) a n2 out bit := by kernel_rfl
    rw [e]
    rw [show (fun (a : List Int) (n2 : Int) (out : List Int) (bit : Int) => loopAt Γ_digits_power K [.r, .r, .r, .r, .l, .r, .b] digits_power_c [] digits_power_fin (fun _ _ => none) digits_power_fin n (digits_power_mk0 a n2 out bit)) = _ from funext fun a => funext fun n2 => funext fun out => funext fun bit => ih a n2 out bit]
    rfl
theorem digits_power_eq (K : Nat) (a : List Int) (n : Int) : exF Γ_digits_power K Tryd.f37 (.pair (.sl (.int .u32)) (.pair (.int .i64) .unit)) (.pair (.sl (.int .u32)) (.pair (.int .i64) .unit)) [] (a, n, ()) = digits_power K a n := by
  have e : exF Γ_digits_power K Tryd.f37 (.pair (.sl (.int .u32)) (.pair (.int .i64) .unit)) (.pair (.sl (.int .u32)) (.pair (.int .i64) .unit)) [] (a, n, ()) = digits_power_b (fun (a : List Int) (n2 : Int) (out : List Int) (bit : Int) => loopAt Γ_digits_power K [.r, .r, .r, .r, .l, .r, .b] digits_power_c [] digits_power_fin (fun _ _ => none) digits_power_fin K (digits_power_mk0 a n2 out bit)) a n := by kernel_rfl
  rw [e]
  rw [show (fun (a : List Int) (n2 : Int) (out : List Int) (bit : Int) => loopAt Γ_digits_power K [.r, .r, .r, .r, .l, .r, .b] digits_power_c [] digits_power_fin (fun _ _ => none) digits_power_fin K (digits_power_mk0 a n2 out bit)) = _ from funext fun a => funext fun n2 => funext fun out => funext fun bit => digits_power_loop0 K K a n2 out bit]
  rfl
theorem env_digits_power : EnvOK Tryd.prog G Γ_digits_power := ⟨T_ok, ((phi_cons fn_limbs_Mul (phi_cons fn_limbs_Of phi_nil)) : PhiOK Tryd.prog G Γ_digits_power.Φ), fun _ _ h => (by cases h), mixed⟩
theorem fn_digits_power : FnOK Tryd.prog G 37 ⟨(.pair (.sl (.int .u32)) (.pair (.int .i64) .unit)), (.pair (.sl (.int .u32)) (.pair (.int .i64) .unit)), [], S.digits_power, none⟩ := FnOK.of env_digits_power Tryd.func37 (by kernel_rfl) (by kernel_rfl) (of_decide_eq_true (by kernel_rfl)) (fun x y h => by obtain ⟨K, hK⟩ := digits_power_ok x y h; exact ⟨K, (digits_power_eq K x.1 x.2.1).trans hK⟩)

noncomputable def Γ_digits_Ten : Env := { T := T, Φ := fun i => bif Nat.beq i 20 then some ⟨(.pair (.int .u64) .unit), (.pair (.sl (.int .u32)) .unit), [], S.limbs_Of, none⟩ else bif Nat.beq i 37 then some ⟨(.pair (.sl (.int .u32)) (.pair (.int .i64) .unit)), (.pair (.sl (.int .u32)) (.pair (.int .i64) .unit)), [], S.digits_power, none⟩ else none, ann := fun i => [], ord := fun i => [] }
theorem digits_Ten_eq (K : Nat) (n : Int) : exF Γ_digits_Ten K Tryd.f22 (.pair (.int .i64) .unit) (.pair (.sl (.int .u32)) (.pair (.int .i64) .unit)) [] (n, ()) = digits_Ten n := by kernel_rfl
theorem env_digits_Ten : EnvOK Tryd.prog G Γ_digits_Ten := ⟨T_ok, ((phi_cons fn_limbs_Of (phi_cons fn_digits_power phi_nil)) : PhiOK Tryd.prog G Γ_digits_Ten.Φ), fun _ _ h => (by cases h), mixed⟩
theorem fn_digits_Ten : FnOK Tryd.prog G 22 ⟨(.pair (.int .i64) .unit), (.pair (.sl (.int .u32)) (.pair (.int .i64) .unit)), [], S.digits_Ten, none⟩ := FnOK.of env_digits_Ten Tryd.func22 (by kernel_rfl) (by kernel_rfl) (of_decide_eq_true (by kernel_rfl)) (fun x y h => ⟨0, (digits_Ten_eq 0 x.1).trans h⟩)

noncomputable def Γ_w02_writes : Env := { T := T, Φ := fun i => bif Nat.beq i 10 then some ⟨(.pair .str .unit), (.pair (.sl (.int .u32)) (.pair (.int .i64) .unit)), [], S.digits_Parse, none⟩ else bif Nat.beq i 17 then some ⟨(.pair (.sl (.int .u32)) (.pair (.sl (.int .u32)) .unit)), (.pair (.sl (.int .u32)) .unit), [], S.digits_Gcd, none⟩ else bif Nat.beq i 19 then some ⟨(.pair (.sl (.int .u32)) (.pair (.sl (.int .u32)) .unit)), (.pair .bool .unit), [], S.slices_Equal_api_Nat_uint32, none⟩ else bif Nat.beq i 20 then some ⟨(.pair (.int .u64) .unit), (.pair (.sl (.int .u32)) .unit), [], S.limbs_Of, none⟩ else bif Nat.beq i 21 then some ⟨(.pair (.sl (.int .u32)) .unit), (.pair .str .unit), [], S.digits_Text, none⟩ else bif Nat.beq i 22 then some ⟨(.pair (.int .i64) .unit), (.pair (.sl (.int .u32)) (.pair (.int .i64) .unit)), [], S.digits_Ten, none⟩ else none, ann := fun i => [], ord := fun i => [] }
theorem w02_writes_eq (K : Nat)  : exF Γ_w02_writes K Tryd.f9 .unit (.pair .bool .unit) [] (()) = w02_writes := by kernel_rfl
theorem env_w02_writes : EnvOK Tryd.prog G Γ_w02_writes := ⟨T_ok, ((phi_cons fn_digits_Parse (phi_cons fn_digits_Gcd (phi_cons fn_slices_Equal_api_Nat_uint32 (phi_cons fn_limbs_Of (phi_cons fn_digits_Text (phi_cons fn_digits_Ten phi_nil)))))) : PhiOK Tryd.prog G Γ_w02_writes.Φ), fun _ _ h => (by cases h), mixed⟩
theorem fn_w02_writes : FnOK Tryd.prog G 9 ⟨.unit, (.pair .bool .unit), [], S.w02_writes, none⟩ := FnOK.of env_w02_writes Tryd.func9 (by kernel_rfl) (by kernel_rfl) (of_decide_eq_true (by kernel_rfl)) (fun x y h => ⟨0, (w02_writes_eq 0 ).trans h⟩)

noncomputable def Γ_ref_Cut : Env := { T := T, Φ := fun i => none, ann := fun i => bif Nat.beq i 2 then [(0, .c (.data (.int .i64))), (3, .c .sc)] else [], ord := fun i => [] }
noncomputable def ref_Cut_c : Code := (Tryd.f28.body).getD .skip
noncomputable def ref_Cut_fin := finish Γ_ref_Cut Tryd.f28.results.toList (.pair (.sl (.int .i64)) .unit) []
noncomputable def ref_Cut_mk0 (a : List Int) (n2 : Int) : St := { t := (upd (upd (fun _ => .undef) 0 (.one (.sl (.int .i64) a))) 3 (.one (.int .i64 n2))), m := (upd (fun _ => .free) 0 .held), nx := 1000000, n := 21 }
theorem ref_Cut_loop0 (K : Nat) : ∀ (n : Nat) (a : List Int) (n2 : Int), loopAt Γ_ref_Cut K [.r, .r, .l, .b] ref_Cut_c [] ref_Cut_fin (fun _ _ => none) ref_Cut_fin n (ref_Cut_mk0 a n2) = ref_Cut_l0 K n a n2 := by
  intro n
  induction n with
  | zero => intro a n2; kernel_rfl
  | succ n ih =>
    intro a n2
    have e : loopAt Γ_ref_Cut K [.r, .r, .l, .b] ref_Cut_c [] ref_Cut_fin (fun _ _ => none) ref_Cut_fin (n + 1) (ref_Cut_mk0 a n2) = ref_Cut_s0 (fun (a : List Int) (n2 : Int) => loopAt Γ_ref_Cut K [.r, .r, .l, .b] ref_Cut_c [] ref_Cut_fin (fun _ _ => none) ref_Cut_fin n (ref_Cut_mk0 a n2)) a n2 := by kernel_rfl
    rw [e]
    rw [show (fun (a : List Int) (n2 : Int) => loopAt Γ_ref_Cut K [.r, .r, .l, .b] ref_Cut_c [] ref_Cut_fin (fun _ _ => none) ref_Cut_fin n (ref_Cut_mk0 a n2)) = _ from funext fun a => funext fun n2 => ih a n2]
    rfl
theorem ref_Cut_eq (K : Nat) (a : List Int) : exF Γ_ref_Cut K Tryd.f28 (.pair (.sl (.int .i64)) .unit) (.pair (.sl (.int .i64)) .unit) [] (a, ()) = ref_Cut K a := by
  have e : exF Γ_ref_Cut K Tryd.f28 (.pair (.sl (.int .i64)) .unit) (.pair (.sl (.int .i64)) .unit) [] (a, ()) = ref_Cut_b (fun (a : List Int) (n2 : Int) => loopAt Γ_ref_Cut K [.r, .r, .l, .b] ref_Cut_c [] ref_Cut_fin (fun _ _ => none) ref_Cut_fin K (ref_Cut_mk0 a n2)) a := by kernel_rfl
  rw [e]
  rw [show (fun (a : List Int) (n2 : Int) => loopAt Γ_ref_Cut K [.r, .r, .l, .b] ref_Cut_c [] ref_Cut_fin (fun _ _ => none) ref_Cut_fin K (ref_Cut_mk0 a n2)) = _ from funext fun a => funext fun n2 => ref_Cut_loop0 K K a n2]
  rfl
theorem env_ref_Cut : EnvOK Tryd.prog G Γ_ref_Cut := ⟨T_ok, (phi_nil : PhiOK Tryd.prog G Γ_ref_Cut.Φ), fun _ _ h => (by cases h), mixed⟩
theorem fn_ref_Cut : FnOK Tryd.prog G 28 ⟨(.pair (.sl (.int .i64)) .unit), (.pair (.sl (.int .i64)) .unit), [], S.ref_Cut, none⟩ := FnOK.of env_ref_Cut Tryd.func28 (by kernel_rfl) (by kernel_rfl) (of_decide_eq_true (by kernel_rfl)) (fun x y h => by obtain ⟨K, hK⟩ := ref_Cut_ok x y h; exact ⟨K, (ref_Cut_eq K x.1).trans hK⟩)

noncomputable def Γ_ref_Mul : Env := { T := T, Φ := fun i => bif Nat.beq i 28 then some ⟨(.pair (.sl (.int .i64)) .unit), (.pair (.sl (.int .i64)) .unit), [], S.ref_Cut, none⟩ else none, ann := fun i => bif Nat.beq i 3 then [(0, .c (.data (.int .i64))), (1, .c (.data (.int .i64))), (5, .c (.own 100 3 (.int .i64))), (6, .c .sc)] else bif Nat.beq i 6 then [(0, .c (.data (.int .i64))), (1, .c (.data (.int .i64))), (5, .c (.own 100 3 (.int .i64))), (6, .c .sc), (7, .c .sc)] else bif Nat.beq i 10 then [(0, .c (.data (.int .i64))), (1, .c (.data (.int .i64))), (5, .c (.own 100 3 (.int .i64))), (6, .c .sc), (8, .c .sc)] else [], ord := fun i => bif Nat.beq i 8 then [0, 1, 2, 3, 4, 5, 6, 7, 8, 9, 10, 11, 12, 13, 14, 15, 16, 17] else bif Nat.beq i 12 then [0, 1, 2, 3, 4, 5, 6, 7, 8, 9, 10, 11, 12] else [] }
noncomputable def ref_Mul_c : Code := (Tryd.f11.body).getD .skip
noncomputable def ref_Mul_fin := finish Γ_ref_Mul Tryd.f11.results.toList (.pair (.sl (.int .i64)) .unit) []
noncomputable def ref_Mul_mk0 (a : List Int) (b : List Int) (out : List Int) (i : Int) : St := { t := (upd (upd (upd (upd (fun _ => .undef) 0 (.one (.sl (.int .i64) a))) 1 (.one (.sl (.int .i64) b))) 5 (.one (.own 100))) 6 (.one (.int .i64 i))), m := (upd (upd (fun _ => .free) 0 .held) 100 (.row true 3 (.int .i64) out)), nx := 1000000, n := 74 }
noncomputable def ref_Mul_mk1 (a : List Int) (b : List Int) (out : List Int) (i : Int) (k : Int) : St := { t := (upd (upd (upd (upd (upd (fun _ => .undef) 0 (.one (.sl (.int .i64) a))) 1 (.one (.sl (.int .i64) b))) 5 (.one (.own 100))) 6 (.one (.int .i64 i))) 7 (.one (.int .i64 k))), m := (upd (upd (fun _ => .free) 0 .held) 100 (.row true 3 (.int .i64) out)), nx := 1000000, n := 74 }
noncomputable def ref_Mul_mk2 (a : List Int) (b : List Int) (out : List Int) (i : Int) (k : Int) : St := { t := (upd (upd (upd (upd (upd (fun _ => .undef) 0 (.one (.sl (.int .i64) a))) 1 (.one (.sl (.int .i64) b))) 5 (.one (.own 100))) 6 (.one (.int .i64 i))) 8 (.one (.int .i64 k))), m := (upd (upd (fun _ => .free) 0 .held) 100 (.row true 3 (.int .i64) out)), nx := 1000000, n := 74 }
theorem ref_Mul_loop2 (K : Nat) (κ0 : St → Option (Den (.pair (.sl (.int .i64)) .unit))) (κ1 : St → Option (Den (.pair (.sl (.int .i64)) .unit))) : ∀ (n : Nat) (a : List Int) (b : List Int) (out : List Int) (i : Int) (k : Int), loopAt Γ_ref_Mul K [.r, .r, .l, .r, .b, .c, .r, .l, .b, .r, .r, .b] ref_Mul_c [fun st => mask [(0, .c (.data (.int .i64))), (1, .c (.data (.int .i64))), (5, .c (.own 100 3 (.int .i64))), (6, .c .sc)] 1000000 st (κ0), fun st => mask [(0, .c (.data (.int .i64))), (1, .c (.data (.int .i64))), (5, .c (.own 100 3 (.int .i64))), (6, .c .sc), (7, .c .sc)] 1000000 st (κ1)] ref_Mul_fin (fun _ _ => none) ref_Mul_fin n (ref_Mul_mk2 a b out i k) = ref_Mul_l2 K (fun (a : List Int) (b : List Int) (out : List Int) (i : Int) => κ0 (ref_Mul_mk0 a b out i)) (fun (a : List Int) (b : List Int) (out : List Int) (i : Int) (k : Int) => κ1 (ref_Mul_mk1 a b out i k)) n a b out i k := by
  intro n
  induction n with
  | zero => intro a b out i k; kernel_rfl
  | succ n ih =>
    intro a b out i k
    have e : loopAt Γ_ref_Mul K [.r, .r, .l, .r, .b, .c, .r, .l, .b, .r, .r, .b] ref_Mul_c [fun st => mask [(0, .c (.data (.int .i64))), (1, .c (.data (.int .i64))), (5, .c (.own 100 3 (.int .i64))), (6, .c .sc)] 1000000 st (κ0), fun st => mask [(0, .c (.data (.int .i64))), (1, .c (.data (.int .i64))), (5, .c (.own 100 3 (.int .i64))), (6, .c .sc), (7, .c .sc)] 1000000 st (κ1)] ref_Mul_fin (fun _ _ => none) ref_Mul_fin (n + 1) (ref_Mul_mk2 a b out i k) = ref_Mul_s2 (fun (a : List Int) (b : List Int) (out : List Int) (i : Int) => κ0 (ref_Mul_mk0 a b out i)) (fun (a : List Int) (b : List Int) (out : List Int) (i : Int) (k : Int) => κ1 (ref_Mul_mk1 a b out i k)) (fun (a : List Int) (b : List Int) (out : List Int) (i : Int) (k : Int) => loopAt Γ_ref_Mul K [.r, .r, .l, .r, .b, .c, .r, .l, .b, .r, .r, .b] ref_Mul_c [fun st => mask [(0, .c (.data (.int .i64))), (1, .c (.data (.int .i64))), (5, .c (.own 100 3 (.int .i64))), (6, .c .sc)] 1000000 st (κ0), fun st => mask [(0, .c (.data (.int .i64))), (1, .c (.data (.int .i64))), (5, .c (.own 100 3 (.int .i64))), (6, .c .sc), (7, .c .sc)] 1000000 st (κ1)] ref_Mul_fin (fun _ _ => none) ref_Mul_fin n (ref_Mul_mk2 a b out i k)) a b out i k := by kernel_rfl
    rw [e]
    rw [show (fun (a : List Int) (b : List Int) (out : List Int) (i : Int) (k : Int) => loopAt Γ_ref_Mul K [.r, .r, .l, .r, .b, .c, .r, .l, .b, .r, .r, .b] ref_Mul_c [fun st => mask [(0, .c (.data (.int .i64))), (1, .c (.data (.int .i64))), (5, .c (.own 100 3 (.int .i64))), (6, .c .sc)] 1000000 st (κ0), fun st => mask [(0, .c (.data (.int .i64))), (1, .c (.data (.int .i64))), (5, .c (.own 100 3 (.int .i64))), (6, .c .sc), (7, .c .sc)] 1000000 st (κ1)] ref_Mul_fin (fun _ _ => none) ref_Mul_fin n (ref_Mul_mk2 a b out i k)) = _ from funext fun a => funext fun b => funext fun out => funext fun i => funext fun k => ih a b out i k]
    rfl
theorem ref_Mul_loop1 (K : Nat) (κ0 : St → Option (Den (.pair (.sl (.int .i64)) .unit))) : ∀ (n : Nat) (a : List Int) (b : List Int) (out : List Int) (i : Int) (k : Int), loopAt Γ_ref_Mul K [.r, .r, .l, .r, .b, .c, .r, .l, .b, .l, .r, .b] ref_Mul_c [fun st => mask [(0, .c (.data (.int .i64))), (1, .c (.data (.int .i64))), (5, .c (.own 100 3 (.int .i64))), (6, .c .sc)] 1000000 st (κ0)] ref_Mul_fin (fun _ _ => none) ref_Mul_fin n (ref_Mul_mk1 a b out i k) = ref_Mul_l1 K (fun (a : List Int) (b : List Int) (out : List Int) (i : Int) => κ0 (ref_Mul_mk0 a b out i)) n a b out i k := by
  intro n
  induction n with
  | zero => intro a b out i k; kernel_rfl
  | succ n ih =>
    intro a b out i k
    have e : loopAt Γ_ref_Mul K [.r, .r, .l, .r, .b, .c, .r, .l, .b, .l, .r, .b] ref_Mul_c [fun st => mask [(0, .c (.data (.int .i64))), (1, .c (.data (.int .i64))), (5, .c (.own 100 3 (.int .i64))), (6, .c .sc)] 1000000 st (κ0)] ref_Mul_fin (fun _ _ => none) ref_Mul_fin (n + 1) (ref_Mul_mk1 a b out i k) = ref_Mul_s1 (fun (a : List Int) (b : List Int) (out : List Int) (i : Int) (k : Int) => loopAt Γ_ref_Mul K [.r, .r, .l, .r, .b, .c, .r, .l, .b, .r, .r, .b] ref_Mul_c [fun st => mask [(0, .c (.data (.int .i64))), (1, .c (.data (.int .i64))), (5, .c (.own 100 3 (.int .i64))), (6, .c .sc)] 1000000 st (κ0), fun st => mask [(0, .c (.data (.int .i64))), (1, .c (.data (.int .i64))), (5, .c (.own 100 3 (.int .i64))), (6, .c .sc), (7, .c .sc)] 1000000 st (loopAt Γ_ref_Mul K [.r, .r, .l, .r, .b, .c, .r, .l, .b, .l, .r, .b] ref_Mul_c [fun st => mask [(0, .c (.data (.int .i64))), (1, .c (.data (.int .i64))), (5, .c (.own 100 3 (.int .i64))), (6, .c .sc)] 1000000 st (κ0)] ref_Mul_fin (fun _ _ => none) ref_Mul_fin n)] ref_Mul_fin (fun _ _ => none) ref_Mul_fin K (ref_Mul_mk2 a b out i k)) (fun (a : List Int) (b : List Int) (out : List Int) (i : Int) => κ0 (ref_Mul_mk0 a b out i)) (fun (a : List Int) (b : List Int) (out : List Int) (i : Int) (k : Int) => loopAt Γ_ref_Mul K [.r, .r, .l, .r, .b, .c, .r, .l, .b, .l, .r, .b] ref_Mul_c [fun st => mask [(0, .c (.data (.int .i64))), (1, .c (.data (.int .i64))), (5, .c (.own 100 3 (.int .i64))), (6, .c .sc)] 1000000 st (κ0)] ref_Mul_fin (fun _ _ => none) ref_Mul_fin n (ref_Mul_mk1 a b out i k)) a b out i k := by kernel_rfl
    rw [e]
    rw [show (fun (a : List Int) (b : List Int) (out : List Int) (i : Int) (k : Int) => loopAt Γ_ref_Mul K [.r, .r, .l, .r, .b, .c, .r, .l, .b, .r, .r, .b] ref_Mul_c [fun st => mask [(0, .c (.data (.int .i64))), (1, .c (.data (.int .i64))), (5, .c (.own 100 3 (.int .i64))), (6, .c .sc)] 1000000 st (κ0), fun st => mask [(0, .c (.data (.int .i64))), (1, .c (.data (.int .i64))), (5, .c (.own 100 3 (.int .i64))), (6, .c .sc), (7, .c .sc)] 1000000 st (loopAt Γ_ref_Mul K [.r, .r, .l, .r, .b, .c, .r, .l, .b, .l, .r, .b] ref_Mul_c [fun st => mask [(0, .c (.data (.int .i64))), (1, .c (.data (.int .i64))), (5, .c (.own 100 3 (.int .i64))), (6, .c .sc)] 1000000 st (κ0)] ref_Mul_fin (fun _ _ => none) ref_Mul_fin n)] ref_Mul_fin (fun _ _ => none) ref_Mul_fin K (ref_Mul_mk2 a b out i k)) = _ from funext fun a => funext fun b => funext fun out => funext fun i => funext fun k => ref_Mul_loop2 K (κ0) (loopAt Γ_ref_Mul K [.r, .r, .l, .r, .b, .c, .r, .l, .b, .l, .r, .b] ref_Mul_c [fun st => mask [(0, .c (.data (.int .i64))), (1, .c (.data (.int .i64))), (5, .c (.own 100 3 (.int .i64))), (6, .c .sc)] 1000000 st (κ0)] ref_Mul_fin (fun _ _ => none) ref_Mul_fin n) K a b out i k]
    rw [show (fun (a : List Int) (b : List Int) (out : List Int) (i : Int) (k : Int) => loopAt Γ_ref_Mul K [.r, .r, .l, .r, .b, .c, .r, .l, .b, .l, .r, .b] ref_Mul_c [fun st => mask [(0, .c (.data (.int .i64))), (1, .c (.data (.int .i64))), (5, .c (.own 100 3 (.int .i64))), (6, .c .sc)] 1000000 st (κ0)] ref_Mul_fin (fun _ _ => none) ref_Mul_fin n (ref_Mul_mk1 a b out i k)) = _ from funext fun a => funext fun b => funext fun out => funext fun i => funext fun k => ih a b out i k]
    rfl
theorem ref_Mul_loop0 (K : Nat) : ∀ (n : Nat) (a : List Int) (b : List Int) (out : List Int) (i : Int), loopAt Γ_ref_Mul K [.r, .r, .l, .r, .b] ref_Mul_c [] ref_Mul_fin (fun _ _ => none) ref_Mul_fin n (ref_Mul_mk0 a b out i) = ref_Mul_l0 K n a b out i := by
  intro n
  induction n with
  | zero => intro a b out i; kernel_rfl
  | succ n ih =>
    intro a b out i
    have e : loopAt Γ_ref_Mul K [.r, .r, .l, .r, .b] ref_Mul_c [] ref_Mul_fin (fun _ _ => none) ref_Mul_fin (n + 1) (ref_Mul_mk0 a b out i) = ref_Mul_s0 (fun (a : List Int) (b : List Int) (out : List Int) (i : Int) (k : Int) => loopAt Γ_ref_Mul K [.r, .r, .l, .r, .b, .c, .r, .l, .b, .l, .r, .b] ref_Mul_c [fun st => mask [(0, .c (.data (.int .i64))), (1, .c (.data (.int .i64))), (5, .c (.own 100 3 (.int .i64))), (6, .c .sc)] 1000000 st (loopAt Γ_ref_Mul K [.r, .r, .l, .r, .b] ref_Mul_c [] ref_Mul_fin (fun _ _ => none) ref_Mul_fin n)] ref_Mul_fin (fun _ _ => none) ref_Mul_fin K (ref_Mul_mk1 a b out i k)) (fun (a : List Int) (b : List Int) (out : List Int) (i : Int) => loopAt Γ_ref_Mul K [.r, .r, .l, .r, .b] ref_Mul_c [] ref_Mul_fin (fun _ _ => none) ref_Mul_fin n (ref_Mul_mk0 a b out i)) a b out i := by kernel_rfl
    rw [e]
    rw [show (fun (a : List Int) (b : List Int) (out : List Int) (i : Int) (k : Int) => loopAt Γ_ref_Mul K [.r, .r, .l, .r, .b, .c, .r, .l, .b, .l, .r, .b] ref_Mul_c [fun st => mask [(0, .c (.data (.int .i64))), (1, .c (.data (.int .i64))), (5, .c (.own 100 3 (.int .i64))), (6, .c .sc)] 1000000 st (loopAt Γ_ref_Mul K [.r, .r, .l, .r, .b] ref_Mul_c [] ref_Mul_fin (fun _ _ => none) ref_Mul_fin n)] ref_Mul_fin (fun _ _ => none) ref_Mul_fin K (ref_Mul_mk1 a b out i k)) = _ from funext fun a => funext fun b => funext fun out => funext fun i => funext fun k => ref_Mul_loop1 K (loopAt Γ_ref_Mul K [.r, .r, .l, .r, .b] ref_Mul_c [] ref_Mul_fin (fun _ _ => none) ref_Mul_fin n) K a b out i k]
    rw [show (fun (a : List Int) (b : List Int) (out : List Int) (i : Int) => loopAt Γ_ref_Mul K [.r, .r, .l, .r, .b] ref_Mul_c [] ref_Mul_fin (fun _ _ => none) ref_Mul_fin n (ref_Mul_mk0 a b out i)) = _ from funext fun a => funext fun b => funext fun out => funext fun i => ih a b out i]
    rfl
theorem ref_Mul_eq (K : Nat) (a : List Int) (b : List Int) : exF Γ_ref_Mul K Tryd.f11 (.pair (.sl (.int .i64)) (.pair (.sl (.int .i64)) .unit)) (.pair (.sl (.int .i64)) .unit) [] (a, b, ()) = ref_Mul K a b := by
  have e : exF Γ_ref_Mul K Tryd.f11 (.pair (.sl (.int .i64)) (.pair (.sl (.int .i64)) .unit)) (.pair (.sl (.int .i64)) .unit) [] (a, b, ()) = ref_Mul_b (fun (a : List Int) (b : List Int) (out : List Int) (i : Int) => loopAt Γ_ref_Mul K [.r, .r, .l, .r, .b] ref_Mul_c [] ref_Mul_fin (fun _ _ => none) ref_Mul_fin K (ref_Mul_mk0 a b out i)) a b := by kernel_rfl
  rw [e]
  rw [show (fun (a : List Int) (b : List Int) (out : List Int) (i : Int) => loopAt Γ_ref_Mul K [.r, .r, .l, .r, .b] ref_Mul_c [] ref_Mul_fin (fun _ _ => none) ref_Mul_fin K (ref_Mul_mk0 a b out i)) = _ from funext fun a => funext fun b => funext fun out => funext fun i => ref_Mul_loop0 K K a b out i]
  rfl
theorem env_ref_Mul : EnvOK Tryd.prog G Γ_ref_Mul := ⟨T_ok, ((phi_cons fn_ref_Cut phi_nil) : PhiOK Tryd.prog G Γ_ref_Mul.Φ), fun _ _ h => (by cases h), mixed⟩
theorem fn_ref_Mul : FnOK Tryd.prog G 11 ⟨(.pair (.sl (.int .i64)) (.pair (.sl (.int .i64)) .unit)), (.pair (.sl (.int .i64)) .unit), [], S.ref_Mul, none⟩ := FnOK.of env_ref_Mul Tryd.func11 (by kernel_rfl) (by kernel_rfl) (of_decide_eq_true (by kernel_rfl)) (fun x y h => by obtain ⟨K, hK⟩ := ref_Mul_ok x y h; exact ⟨K, (ref_Mul_eq K x.1 x.2.1).trans hK⟩)

noncomputable def Γ_ref_Add : Env := { T := T, Φ := fun i => bif Nat.beq i 28 then some ⟨(.pair (.sl (.int .i64)) .unit), (.pair (.sl (.int .i64)) .unit), [], S.ref_Cut, none⟩ else none, ann := fun i => bif Nat.beq i 4 then [(0, .c (.data (.int .i64))), (1, .c (.data (.int .i64))), (5, .c (.own 100 3 (.int .i64))), (6, .c .sc), (7, .c .sc)] else [], ord := fun i => [] }
noncomputable def ref_Add_c : Code := (Tryd.f12.body).getD .skip
noncomputable def ref_Add_fin := finish Γ_ref_Add Tryd.f12.results.toList (.pair (.sl (.int .i64)) .unit) []
noncomputable def ref_Add_mk0 (a : List Int) (b : List Int) (out : List Int) (carry : Int) (i : Int) : St := { t := (upd (upd (upd (upd (upd (fun _ => .undef) 0 (.one (.sl (.int .i64) a))) 1 (.one (.sl (.int .i64) b))) 5 (.one (.own 100))) 6 (.one (.int .i64 carry))) 7 (.one (.int .i64 i))), m := (upd (upd (fun _ => .free) 0 .held) 100 (.row true 3 (.int .i64) out)), nx := 1000000, n := 53 }
theorem ref_Add_loop0 (K : Nat) : ∀ (n : Nat) (a : List Int) (b : List Int) (out : List Int) (carry : Int) (i : Int), loopAt Γ_ref_Add K [.r, .r, .r, .l, .r, .b] ref_Add_c [] ref_Add_fin (fun _ _ => none) ref_Add_fin n (ref_Add_mk0 a b out carry i) = ref_Add_l0 K n a b out carry i := by
  intro n
  induction n with
  | zero => intro a b out carry i; kernel_rfl
  | succ n ih =>
    intro a b out carry i
    have e : loopAt Γ_ref_Add K [.r, .r, .r, .l, .r, .b] ref_Add_c [] ref_Add_fin (fun _ _ => none) ref_Add_fin (n + 1) (ref_Add_mk0 a b out carry i) = ref_Add_s0 (fun (a : List Int) (b : List Int) (out : List Int) (carry : Int) (i : Int) => loopAt Γ_ref_Add K [.r, .r, .r, .l, .r, .b] ref_Add_c [] ref_Add_fin (fun _ _ => none) ref_Add_fin n (ref_Add_mk0 a b out carry i)) a b out carry i := by kernel_rfl
    rw [e]
    rw [show (fun (a : List Int) (b : List Int) (out : List Int) (carry : Int) (i : Int) => loopAt Γ_ref_Add K [.r, .r, .r, .l, .r, .b] ref_Add_c [] ref_Add_fin (fun _ _ => none) ref_Add_fin n (ref_Add_mk0 a b out carry i)) = _ from funext fun a => funext fun b => funext fun out => funext fun carry => funext fun i => ih a b out carry i]
    rfl
theorem ref_Add_eq (K : Nat) (a : List Int) (b : List Int) : exF Γ_ref_Add K Tryd.f12 (.pair (.sl (.int .i64)) (.pair (.sl (.int .i64)) .unit)) (.pair (.sl (.int .i64)) .unit) [] (a, b, ()) = ref_Add K a b := by
  have e : exF Γ_ref_Add K Tryd.f12 (.pair (.sl (.int .i64)) (.pair (.sl (.int .i64)) .unit)) (.pair (.sl (.int .i64)) .unit) [] (a, b, ()) = ref_Add_b (fun (a : List Int) (b : List Int) (out : List Int) (carry : Int) (i : Int) => loopAt Γ_ref_Add K [.r, .r, .r, .l, .r, .b] ref_Add_c [] ref_Add_fin (fun _ _ => none) ref_Add_fin K (ref_Add_mk0 a b out carry i)) a b := by kernel_rfl
  rw [e]
  rw [show (fun (a : List Int) (b : List Int) (out : List Int) (carry : Int) (i : Int) => loopAt Γ_ref_Add K [.r, .r, .r, .l, .r, .b] ref_Add_c [] ref_Add_fin (fun _ _ => none) ref_Add_fin K (ref_Add_mk0 a b out carry i)) = _ from funext fun a => funext fun b => funext fun out => funext fun carry => funext fun i => ref_Add_loop0 K K a b out carry i]
  rfl
theorem env_ref_Add : EnvOK Tryd.prog G Γ_ref_Add := ⟨T_ok, ((phi_cons fn_ref_Cut phi_nil) : PhiOK Tryd.prog G Γ_ref_Add.Φ), fun _ _ h => (by cases h), mixed⟩
theorem fn_ref_Add : FnOK Tryd.prog G 12 ⟨(.pair (.sl (.int .i64)) (.pair (.sl (.int .i64)) .unit)), (.pair (.sl (.int .i64)) .unit), [], S.ref_Add, none⟩ := FnOK.of env_ref_Add Tryd.func12 (by kernel_rfl) (by kernel_rfl) (of_decide_eq_true (by kernel_rfl)) (fun x y h => by obtain ⟨K, hK⟩ := ref_Add_ok x y h; exact ⟨K, (ref_Add_eq K x.1 x.2.1).trans hK⟩)

noncomputable def Γ_slices_Equal_s_uint32_uint32 : Env := { T := T, Φ := fun i => none, ann := fun i => bif Nat.beq i 4 then [(0, .c (.data (.int .u32))), (1, .c (.data (.int .u32))), (12, .c .sc), (13, .c .sc)] else [], ord := fun i => bif Nat.beq i 6 then [0, 1, 2, 3, 4, 5, 6, 7, 8] else [] }
noncomputable def slices_Equal_s_uint32_uint32_c : Code := (Tryd.f13.body).getD .skip
noncomputable def slices_Equal_s_uint32_uint32_fin := finish Γ_slices_Equal_s_uint32_uint32 Tryd.f13.results.toList (.pair .bool .unit) []
noncomputable def slices_Equal_s_uint32_uint32_mk0 (s1 : List Int) (s2 : List Int) (t12 : Int) (t13 : Int) : St := { t := (upd (upd (upd (upd (fun _ => .undef) 0 (.one (.sl (.int .u32) s1))) 1 (.one (.sl (.int .u32) s2))) 12 (.one (.int .i64 t12))) 13 (.one (.int .i64 t13))), m := (upd (fun _ => .free) 0 .held), nx := 1000000, n := 26 }
theorem slices_Equal_s_uint32_uint32_loop0 (K : Nat) : ∀ (n : Nat) (s1 : List Int) (s2 : List Int) (t12 : Int) (t13 : Int), loopAt Γ_slices_Equal_s_uint32_uint32 K [.r, .r, .l, .r, .b] slices_Equal_s_uint32_uint32_c [] slices_Equal_s_uint32_uint32_fin (fun _ _ => none) slices_Equal_s_uint32_uint32_fin n (slices_Equal_s_uint32_uint32_mk0 s1 s2 t12 t13) = slices_Equal_s_uint32_uint32_l0 K n s1 s2 t12 t13 := by
  intro n
  induction n with
  | zero => intro s1 s2 t12 t13; kernel_rfl
  | succ n ih =>
    intro s1 s2 t12 t13
    have e : loopAt Γ_slices_Equal_s_uint32_uint32 K [.r, .r, .l, .r, .b] slices_Equal_s_uint32_uint32_c [] slices_Equal_s_uint32_uint32_fin (fun _ _ => none) slices_Equal_s_uint32_uint32_fin (n + 1) (slices_Equal_s_uint32_uint32_mk0 s1 s2 t12 t13) = slices_Equal_s_uint32_uint32_s0 (fun (s1 : List Int) (s2 : List Int) (t12 : Int) (t13 : Int) => loopAt Γ_slices_Equal_s_uint32_uint32 K [.r, .r, .l, .r, .b] slices_Equal_s_uint32_uint32_c [] slices_Equal_s_uint32_uint32_fin (fun _ _ => none) slices_Equal_s_uint32_uint32_fin n (slices_Equal_s_uint32_uint32_mk0 s1 s2 t12 t13)) s1 s2 t12 t13 := by kernel_rfl
    rw [e]
    rw [show (fun (s1 : List Int) (s2 : List Int) (t12 : Int) (t13 : Int) => loopAt Γ_slices_Equal_s_uint32_uint32 K [.r, .r, .l, .r, .b] slices_Equal_s_uint32_uint32_c [] slices_Equal_s_uint32_uint32_fin (fun _ _ => none) slices_Equal_s_uint32_uint32_fin n (slices_Equal_s_uint32_uint32_mk0 s1 s2 t12 t13)) = _ from funext fun s1 => funext fun s2 => funext fun t12 => funext fun t13 => ih s1 s2 t12 t13]
    rfl
theorem slices_Equal_s_uint32_uint32_eq (K : Nat) (s1 : List Int) (s2 : List Int) : exF Γ_slices_Equal_s_uint32_uint32 K Tryd.f13 (.pair (.sl (.int .u32)) (.pair (.sl (.int .u32)) .unit)) (.pair .bool .unit) [] (s1, s2, ()) = slices_Equal_s_uint32_uint32 K s1 s2 := by
  have e : exF Γ_slices_Equal_s_uint32_uint32 K Tryd.f13 (.pair (.sl (.int .u32)) (.pair (.sl (.int .u32)) .unit)) (.pair .bool .unit) [] (s1, s2, ()) = slices_Equal_s_uint32_uint32_b (fun (s1 : List Int) (s2 : List Int) (t12 : Int) (t13 : Int) => loopAt Γ_slices_Equal_s_uint32_uint32 K [.r, .r, .l, .r, .b] slices_Equal_s_uint32_uint32_c [] slices_Equal_s_uint32_uint32_fin (fun _ _ => none) slices_Equal_s_uint32_uint32_fin K (slices_Equal_s_uint32_uint32_mk0 s1 s2 t12 t13)) s1 s2 := by kernel_rfl
  rw [e]
  rw [show (fun (s1 : List Int) (s2 : List Int) (t12 : Int) (t13 : Int) => loopAt Γ_slices_Equal_s_uint32_uint32 K [.r, .r, .l, .r, .b] slices_Equal_s_uint32_uint32_c [] slices_Equal_s_uint32_uint32_fin (fun _ _ => none) slices_Equal_s_uint32_uint32_fin K (slices_Equal_s_uint32_uint32_mk0 s1 s2 t12 t13)) = _ from funext fun s1 => funext fun s2 => funext fun t12 => funext fun t13 => slices_Equal_s_uint32_uint32_loop0 K K s1 s2 t12 t13]
  rfl
theorem env_slices_Equal_s_uint32_uint32 : EnvOK Tryd.prog G Γ_slices_Equal_s_uint32_uint32 := ⟨T_ok, (phi_nil : PhiOK Tryd.prog G Γ_slices_Equal_s_uint32_uint32.Φ), fun _ _ h => (by cases h), mixed⟩
theorem fn_slices_Equal_s_uint32_uint32 : FnOK Tryd.prog G 13 ⟨(.pair (.sl (.int .u32)) (.pair (.sl (.int .u32)) .unit)), (.pair .bool .unit), [], S.slices_Equal_s_uint32_uint32, none⟩ := FnOK.of env_slices_Equal_s_uint32_uint32 Tryd.func13 (by kernel_rfl) (by kernel_rfl) (of_decide_eq_true (by kernel_rfl)) (fun x y h => by obtain ⟨K, hK⟩ := slices_Equal_s_uint32_uint32_ok x y h; exact ⟨K, (slices_Equal_s_uint32_uint32_eq K x.1 x.2.1).trans hK⟩)

noncomputable def Γ_ref_Back : Env := { T := T, Φ := fun i => none, ann := fun i => bif Nat.beq i 3 then [(0, .c (.data (.int .i64))), (3, .c (.own 100 31 (.int .u32))), (4, .c .sc)] else bif Nat.beq i 7 then [(0, .c (.data (.int .i64))), (3, .c (.own 100 31 (.int .u32))), (4, .c .sc), (5, .c .sc), (6, .c .sc)] else [], ord := fun i => [] }
noncomputable def ref_Back_c : Code := (Tryd.f14.body).getD .skip
noncomputable def ref_Back_fin := finish Γ_ref_Back Tryd.f14.results.toList (.pair (.sl (.int .u32)) .unit) []
noncomputable def ref_Back_mk0 (a : List Int) (out : List Int) (i : Int) : St := { t := (upd (upd (upd (fun _ => .undef) 0 (.one (.sl (.int .i64) a))) 3 (.one (.own 100))) 4 (.one (.int .i64 i))), m := (upd (upd (fun _ => .free) 0 .held) 100 (.row true 31 (.int .u32) out)), nx := 1000000, n := 39 }
noncomputable def ref_Back_mk1 (a : List Int) (out : List Int) (i : Int) (n2 : Int) (k : Int) : St := { t := (upd (upd (upd (upd (upd (fun _ => .undef) 0 (.one (.sl (.int .i64) a))) 3 (.one (.own 100))) 4 (.one (.int .i64 i))) 5 (.one (.int .i64 n2))) 6 (.one (.int .i64 k))), m := (upd (upd (fun _ => .free) 0 .held) 100 (.row true 31 (.int .u32) out)), nx := 1000000, n := 39 }
theorem ref_Back_loop1 (K : Nat) (κ0 : St → Option (Den (.pair (.sl (.int .u32)) .unit))) : ∀ (n : Nat) (a : List Int) (out : List Int) (i : Int) (n2 : Int) (k : Int), loopAt Γ_ref_Back K [.r, .r, .l, .r, .b, .c, .r, .l, .b, .r, .l, .r, .b] ref_Back_c [fun st => mask [(0, .c (.data (.int .i64))), (3, .c (.own 100 31 (.int .u32))), (4, .c .sc)] 1000000 st (κ0)] ref_Back_fin (fun _ _ => none) ref_Back_fin n (ref_Back_mk1 a out i n2 k) = ref_Back_l1 K (fun (a : List Int) (out : List Int) (i : Int) => κ0 (ref_Back_mk0 a out i)) n a out i n2 k := by
  intro n
  induction n with
  | zero => intro a out i n2 k; kernel_rfl
  | succ n ih =>
    intro a out i n2 k
    have e : loopAt Γ_ref_Back K [.r, .r, .l, .r, .b, .c, .r, .l, .b, .r, .l, .r, .b] ref_Back_c [fun st => mask [(0, .c (.data (.int .i64))), (3, .c (.own 100 31 (.int .u32))), (4, .c .sc)] 1000000 st (κ0)] ref_Back_fin (fun _ _ => none) ref_Back_fin (n + 1) (ref_Back_mk1 a out i n2 k) = ref_Back_s1 (fun (a : List Int) (out : List Int) (i : Int) => κ0 (ref_Back_mk0 a out i)) (fun (a : List Int) (out : List Int) (i : Int) (n2 : Int) (k : Int) => loopAt Γ_ref_Back K [.r, .r, .l, .r, .b, .c, .r, .l, .b, .r, .l, .r, .b] ref_Back_c [fun st => mask [(0, .c (.data (.int .i64))), (3, .c (.own 100 31 (.int .u32))), (4, .c .sc)] 1000000 st (κ0)] ref_Back_fin (fun _ _ => none) ref_Back_fin n (ref_Back_mk1 a out i n2 k)) a out i n2 k := by kernel_rfl
    rw [e]
    rw [show (fun (a : List Int) (out : List Int) (i : Int) (n2 : Int) (k : Int) => loopAt Γ_ref_Back K [.r, .r, .l, .r, .b, .c, .r, .l, .b, .r, .l, .r, .b] ref_Back_c [fun st => mask [(0, .c (.data (.int .i64))), (3, .c (.own 100 31 (.int .u32))), (4, .c .sc)] 1000000 st (κ0)] ref_Back_fin (fun _ _ => none) ref_Back_fin n (ref_Back_mk1 a out i n2 k)) = _ from funext fun a => funext fun out => funext fun i => funext fun n2 => funext fun k => ih a out i n2 k]
    rfl
theorem ref_Back_loop0 (K : Nat) : ∀ (n : Nat) (a : List Int) (out : List Int) (i : Int), loopAt Γ_ref_Back K [.r, .r, .l, .r, .b] ref_Back_c [] ref_Back_fin (fun _ _ => none) ref_Back_fin n (ref_Back_mk0 a out i) = ref_Back_l0 K n a out i := by
  intro n
  induction n with
  | zero => intro a out i; kernel_rfl
  | succ n ih =>
    intro a out i
    have e : loopAt Γ_ref_Back K [.r, .r, .l, .r, .b] ref_Back_c [] ref_Back_fin (fun _ _ => none) ref_Back_fin (n + 1) (ref_Back_mk0 a out i) = ref_Back_s0 (fun (a : List Int) (out : List Int) (i : Int) (n2 : Int) (k : Int) => loopAt Γ_ref_Back K [.r, .r, .l, .r, .b, .c, .r, .l, .b, .r, .l, .r, .b] ref_Back_c [fun st => mask [(0, .c (.data (.int .i64))), (3, .c (.own 100 31 (.int .u32))), (4, .c .sc)] 1000000 st (loopAt Γ_ref_Back K [.r, .r, .l, .r, .b] ref_Back_c [] ref_Back_fin (fun _ _ => none) ref_Back_fin n)] ref_Back_fin (fun _ _ => none) ref_Back_fin K (ref_Back_mk1 a out i n2 k)) (fun (a : List Int) (out : List Int) (i : Int) => loopAt Γ_ref_Back K [.r, .r, .l, .r, .b] ref_Back_c [] ref_Back_fin (fun _ _ => none) ref_Back_fin n (ref_Back_mk0 a out i)) a out i := by kernel_rfl
    rw [e]
    rw [show (fun (a : List Int) (out : List Int) (i : Int) (n2 : Int) (k : Int) => loopAt Γ_ref_Back K [.r, .r, .l, .r, .b, .c, .r, .l, .b, .r, .l, .r, .b] ref_Back_c [fun st => mask [(0, .c (.data (.int .i64))), (3, .c (.own 100 31 (.int .u32))), (4, .c .sc)] 1000000 st (loopAt Γ_ref_Back K [.r, .r, .l, .r, .b] ref_Back_c [] ref_Back_fin (fun _ _ => none) ref_Back_fin n)] ref_Back_fin (fun _ _ => none) ref_Back_fin K (ref_Back_mk1 a out i n2 k)) = _ from funext fun a => funext fun out => funext fun i => funext fun n2 => funext fun k => ref_Back_loop1 K (loopAt Γ_ref_Back K [.r, .r, .l, .r, .b] ref_Back_c [] ref_Back_fin (fun _ _ => none) ref_Back_fin n) K a out i n2 k]
    rw [show (fun (a : List Int) (out : List Int) (i : Int) => loopAt Γ_ref_Back K [.r, .r, .l, .r, .b] ref_Back_c [] ref_Back_fin (fun _ _ => none) ref_Back_fin n (ref_Back_mk0 a out i)) = _ from funext fun a => funext fun out => funext fun i => ih a out i]
    rfl
theorem ref_Back_eq (K : Nat) (a : List Int) : exF Γ_ref_Back K Tryd.f14 (.pair (.sl (.int .i64)) .unit) (.pair (.sl (.int .u32)) .unit) [] (a, ()) = ref_Back K a := by
  have e : exF Γ_ref_Back K Tryd.f14 (.pair (.sl (.int .i64)) .unit) (.pair (.sl (.int .u32)) .unit) [] (a, ()) = ref_Back_b (fun (a : List Int) (out : List Int) (i : Int) => loopAt Γ_ref_Back K [.r, .r, .l, .r, .b] ref_Back_c [] ref_Back_fin (fun _ _ => none) ref_Back_fin K (ref_Back_mk0 a out i)) a := by kernel_rfl
  rw [e]
  rw [show (fun (a : List Int) (out : List Int) (i : Int) => loopAt Γ_ref_Back K [.r, .r, .l, .r, .b] ref_Back_c [] ref_Back_fin (fun _ _ => none) ref_Back_fin K (ref_Back_mk0 a out i)) = _ from funext fun a => funext fun out => funext fun i => ref_Back_loop0 K K a out i]
  rfl
theorem env_ref_Back : EnvOK Tryd.prog G Γ_ref_Back := ⟨T_ok, (phi_nil : PhiOK Tryd.prog G Γ_ref_Back.Φ), fun _ _ h => (by cases h), mixed⟩
theorem fn_ref_Back : FnOK Tryd.prog G 14 ⟨(.pair (.sl (.int .i64)) .unit), (.pair (.sl (.int .u32)) .unit), [], S.ref_Back, none⟩ := FnOK.of env_ref_Back Tryd.func14 (by kernel_rfl) (by kernel_rfl) (of_decide_eq_true (by kernel_rfl)) (fun x y h => by obtain ⟨K, hK⟩ := ref_Back_ok x y h; exact ⟨K, (ref_Back_eq K x.1).trans hK⟩)

noncomputable def Γ_w02_DigitsParses : Env := { T := T, Φ := fun i => bif Nat.beq i 9 then some ⟨.unit, (.pair .bool .unit), [], S.w02_writes, none⟩ else bif Nat.beq i 10 then some ⟨(.pair .str .unit), (.pair (.sl (.int .u32)) (.pair (.int .i64) .unit)), [], S.digits_Parse, none⟩ else bif Nat.beq i 11 then some ⟨(.pair (.sl (.int .i64)) (.pair (.sl (.int .i64)) .unit)), (.pair (.sl (.int .i64)) .unit), [], S.ref_Mul, none⟩ else bif Nat.beq i 12 then some ⟨(.pair (.sl (.int .i64)) (.pair (.sl (.int .i64)) .unit)), (.pair (.sl (.int .i64)) .unit), [], S.ref_Add, none⟩ else bif Nat.beq i 13 then some ⟨(.pair (.sl (.int .u32)) (.pair (.sl (.int .u32)) .unit)), (.pair .bool .unit), [], S.slices_Equal_s_uint32_uint32, none⟩ else bif Nat.beq i 14 then some ⟨(.pair (.sl (.int .i64)) .unit), (.pair (.sl (.int .u32)) .unit), [], S.ref_Back, none⟩ else none, ann := fun i => bif Nat.beq i 9 then [(0, .c .sc), (3, .c (.data (.int .u32))), (4, .c .sc), (5, .c .sc), (6, .c (.data (.int .i64))), (21, .c .sc), (22, .c .sc)] else [], ord := fun i => [] }
noncomputable def w02_DigitsParses_c : Code := (Tryd.f3.body).getD .skip
noncomputable def w02_DigitsParses_fin := finish Γ_w02_DigitsParses Tryd.f3.results.toList (.pair .bool .unit) []
noncomputable def w02_DigitsParses_mk0 (s : ByteArray) (a : List Int) (e : Int) (bad : Bool) (d : List Int) (t21 : Int) (t22 : Int) : St := { t := (upd (upd (upd (upd (upd (upd (upd (fun _ => .undef) 0 (.one (.str s))) 3 (.one (.sl (.int .u32) a))) 4 (.one (.int .i64 e))) 5 (.one (.bool bad))) 6 (.one (.sl (.int .i64) d))) 21 (.one (.int .i64 t21))) 22 (.one (.int .i64 t22))), m := (upd (fun _ => .free) 0 .held), nx := 1000000, n := 67 }
theorem w02_DigitsParses_loop0 (K : Nat) : ∀ (n : Nat) (s : ByteArray) (a : List Int) (e : Int) (bad : Bool) (d : List Int) (t21 : Int) (t22 : Int), loopAt Γ_w02_DigitsParses K [.r, .r, .r, .r, .r, .r, .l, .r, .b] w02_DigitsParses_c [] w02_DigitsParses_fin (fun _ _ => none) w02_DigitsParses_fin n (w02_DigitsParses_mk0 s a e bad d t21 t22) = w02_DigitsParses_l0 K n s a e bad d t21 t22 := by
  intro n
  induction n with
  | zero => intro s a e bad d t21 t22; kernel_rfl
  | succ n ih =>
    intro s a e bad d t21 t22
    have e : loopAt Γ_w02_DigitsParses K [.r, .r, .r, .r, .r, .r, .l, .r, .b] w02_DigitsParses_c [] w02_DigitsParses_fin (fun _ _ => none) w02_DigitsParses_fin (n + 1) (w02_DigitsParses_mk0 s a e bad d t21 t22) = w02_DigitsParses_s0 (fun (s : ByteArray) (a : List Int) (e : Int) (bad : Bool) (d : List Int) (t21 : Int) (t22 : Int) => loopAt Γ_w02_DigitsParses K [.r, .r, .r, .r, .r, .r, .l, .r, .b] w02_DigitsParses_c [] w02_DigitsParses_fin (fun _ _ => none) w02_DigitsParses_fin n (w02_DigitsParses_mk0 s a e bad d t21 t22)) s a e bad d t21 t22 := by kernel_rfl
    rw [e]
    rw [show (fun (s : ByteArray) (a : List Int) (e : Int) (bad : Bool) (d : List Int) (t21 : Int) (t22 : Int) => loopAt Γ_w02_DigitsParses K [.r, .r, .r, .r, .r, .r, .l, .r, .b] w02_DigitsParses_c [] w02_DigitsParses_fin (fun _ _ => none) w02_DigitsParses_fin n (w02_DigitsParses_mk0 s a e bad d t21 t22)) = _ from funext fun s => funext fun a => funext fun e => funext fun bad => funext fun d => funext fun t21 => funext fun t22 => ih s a e bad d t21 t22]
    rfl
theorem w02_DigitsParses_eq (K : Nat) (s : ByteArray) : exF Γ_w02_DigitsParses K Tryd.f3 (.pair .str .unit) (.pair .bool .unit) [] (s, ()) = w02_DigitsParses K s := by
  have e : exF Γ_w02_DigitsParses K Tryd.f3 (.pair .str .unit) (.pair .bool .unit) [] (s, ()) = w02_DigitsParses_b (fun (s : ByteArray) (a : List Int) (e : Int) (bad : Bool) (d : List Int) (t21 : Int) (t22 : Int) => loopAt Γ_w02_DigitsParses K [.r, .r, .r, .r, .r, .r, .l, .r, .b] w02_DigitsParses_c [] w02_DigitsParses_fin (fun _ _ => none) w02_DigitsParses_fin K (w02_DigitsParses_mk0 s a e bad d t21 t22)) s := by kernel_rfl
  rw [e]
  rw [show (fun (s : ByteArray) (a : List Int) (e : Int) (bad : Bool) (d : List Int) (t21 : Int) (t22 : Int) => loopAt Γ_w02_DigitsParses K [.r, .r, .r, .r, .r, .r, .l, .r, .b] w02_DigitsParses_c [] w02_DigitsParses_fin (fun _ _ => none) w02_DigitsParses_fin K (w02_DigitsParses_mk0 s a e bad d t21 t22)) = _ from funext fun s => funext fun a => funext fun e => funext fun bad => funext fun d => funext fun t21 => funext fun t22 => w02_DigitsParses_loop0 K K s a e bad d t21 t22]
  rfl
theorem env_w02_DigitsParses : EnvOK Tryd.prog G Γ_w02_DigitsParses := ⟨T_ok, ((phi_cons fn_w02_writes (phi_cons fn_digits_Parse (phi_cons fn_ref_Mul (phi_cons fn_ref_Add (phi_cons fn_slices_Equal_s_uint32_uint32 (phi_cons fn_ref_Back phi_nil)))))) : PhiOK Tryd.prog G Γ_w02_DigitsParses.Φ), fun _ _ h => (by cases h), mixed⟩
theorem fn_w02_DigitsParses : FnOK Tryd.prog G 3 ⟨(.pair .str .unit), (.pair .bool .unit), [], S.w02_DigitsParses, none⟩ := FnOK.of env_w02_DigitsParses Tryd.func3 (by kernel_rfl) (by kernel_rfl) (of_decide_eq_true (by kernel_rfl)) (fun x y h => by obtain ⟨K, hK⟩ := w02_DigitsParses_ok x y h; exact ⟨K, (w02_DigitsParses_eq K x.1).trans hK⟩)

noncomputable def Γ_limbs_Check : Env := { T := T, Φ := fun i => none, ann := fun i => [], ord := fun i => [] }
theorem limbs_Check_eq (K : Nat) (a : List Int) : exF Γ_limbs_Check K Tryd.f15 (.pair (.sl (.int .u32)) .unit) (.pair (.int .i64) .unit) [] (a, ()) = limbs_Check a := by kernel_rfl
theorem env_limbs_Check : EnvOK Tryd.prog G Γ_limbs_Check := ⟨T_ok, (phi_nil : PhiOK Tryd.prog G Γ_limbs_Check.Φ), fun _ _ h => (by cases h), mixed⟩
theorem fn_limbs_Check : FnOK Tryd.prog G 15 ⟨(.pair (.sl (.int .u32)) .unit), (.pair (.int .i64) .unit), [], S.limbs_Check, none⟩ := FnOK.of env_limbs_Check Tryd.func15 (by kernel_rfl) (by kernel_rfl) (of_decide_eq_true (by kernel_rfl)) (fun x y h => ⟨0, (limbs_Check_eq 0 x.1).trans h⟩)

noncomputable def Γ_w02_DigitsGcd : Env := { T := T, Φ := fun i => bif Nat.beq i 9 then some ⟨.unit, (.pair .bool .unit), [], S.w02_writes, none⟩ else bif Nat.beq i 15 then some ⟨(.pair (.sl (.int .u32)) .unit), (.pair (.int .i64) .unit), [], S.limbs_Check, none⟩ else bif Nat.beq i 16 then some ⟨(.pair (.sl (.int .u32)) (.pair (.sl (.int .u32)) .unit)), (.pair (.sl (.int .u32)) (.pair (.int .i64) .unit)), [], S.limbs_Mul, none⟩ else bif Nat.beq i 17 then some ⟨(.pair (.sl (.int .u32)) (.pair (.sl (.int .u32)) .unit)), (.pair (.sl (.int .u32)) .unit), [], S.digits_Gcd, none⟩ else bif Nat.beq i 18 then some ⟨(.pair (.sl (.int .u32)) (.pair (.sl (.int .u32)) .unit)), (.pair (.sl (.int .u32)) (.pair (.sl (.int .u32)) (.pair (.int .i64) .unit))), [], S.limbs_Div, none⟩ else bif Nat.beq i 19 then some ⟨(.pair (.sl (.int .u32)) (.pair (.sl (.int .u32)) .unit)), (.pair .bool .unit), [], S.slices_Equal_api_Nat_uint32, none⟩ else bif Nat.beq i 20 then some ⟨(.pair (.int .u64) .unit), (.pair (.sl (.int .u32)) .unit), [], S.limbs_Of, none⟩ else none, ann := fun i => bif Nat.beq i 4 then [(0, .c (.data (.int .u32))), (1, .c (.data (.int .u32))), (2, .c (.data (.int .u32))), (28, .c (.own 100 24 (.sl (.int .u32)))), (29, .c .sc), (30, .c .sc)] else [], ord := fun i => [] }
noncomputable def w02_DigitsGcd_c : Code := (Tryd.f4.body).getD .skip
noncomputable def w02_DigitsGcd_fin := finish Γ_w02_DigitsGcd Tryd.f4.results.toList (.pair .bool .unit) []
noncomputable def w02_DigitsGcd_mk0 (a : List Int) (b : List Int) (c : List Int) (t28 : List (List Int)) (t29 : Int) (t30 : Int) : St := { t := (upd (upd (upd (upd (upd (upd (fun _ => .undef) 0 (.one (.sl (.int .u32) a))) 1 (.one (.sl (.int .u32) b))) 2 (.one (.sl (.int .u32) c))) 28 (.one (.own 100))) 29 (.one (.int .i64 t29))) 30 (.one (.int .i64 t30))), m := (upd (upd (fun _ => .free) 0 .held) 100 (.row true 24 (.sl (.int .u32)) t28)), nx := 1000000, n := 131 }
theorem w02_DigitsGcd_loop0 (K : Nat) : ∀ (n : Nat) (a : List Int) (b : List Int) (c : List Int) (t28 : List (List Int)) (t29 : Int) (t30 : Int), loopAt Γ_w02_DigitsGcd K [.r, .r, .l, .r, .b] w02_DigitsGcd_c [] w02_DigitsGcd_fin (fun _ _ => none) w02_DigitsGcd_fin n (w02_DigitsGcd_mk0 a b c t28 t29 t30) = w02_DigitsGcd_l0 K n a b c t28 t29 t30 := by
  intro n
  induction n with
  | zero => intro a b c t28 t29 t30; kernel_rfl
  | succ n ih =>
    intro a b c t28 t29 t30
    have e : loopAt Γ_w02_DigitsGcd K [.r, .r, .l, .r, .b] w02_DigitsGcd_c [] w02_DigitsGcd_fin (fun _ _ => none) w02_DigitsGcd_fin (n + 1) (w02_DigitsGcd_mk0 a b c t28 t29 t30) = w02_DigitsGcd_s0 (fun (a : List Int) (b : List Int) (c : List Int) (t28 : List (List Int)) (t29 : Int) (t30 : Int) => loopAt Γ_w02_DigitsGcd K [.r, .r, .l, .r, .b] w02_DigitsGcd_c [] w02_DigitsGcd_fin (fun _ _ => none) w02_DigitsGcd_fin n (w02_DigitsGcd_mk0 a b c t28 t29 t30)) a b c t28 t29 t30 := by kernel_rfl
    rw [e]
    rw [show (fun (a : List Int) (b : List Int) (c : List Int) (t28 : List (List Int)) (t29 : Int) (t30 : Int) => loopAt Γ_w02_DigitsGcd K [.r, .r, .l, .r, .b] w02_DigitsGcd_c [] w02_DigitsGcd_fin (fun _ _ => none) w02_DigitsGcd_fin n (w02_DigitsGcd_mk0 a b c t28 t29 t30)) = _ from funext fun a => funext fun b => funext fun c => funext fun t28 => funext fun t29 => funext fun t30 => ih a b c t28 t29 t30]
    rfl
theorem w02_DigitsGcd_eq (K : Nat) (a : List Int) (b : List Int) (c : List Int) : exF Γ_w02_DigitsGcd K Tryd.f4 (.pair (.sl (.int .u32)) (.pair (.sl (.int .u32)) (.pair (.sl (.int .u32)) .unit))) (.pair .bool .unit) [] (a, b, c, ()) = w02_DigitsGcd K a b c := by
  have e : exF Γ_w02_DigitsGcd K Tryd.f4 (.pair (.sl (.int .u32)) (.pair (.sl (.int .u32)) (.pair (.sl (.int .u32)) .unit))) (.pair .bool .unit) [] (a, b, c, ()) = w02_DigitsGcd_b (fun (a : List Int) (b : List Int) (c : List Int) (t28 : List (List Int)) (t29 : Int) (t30 : Int) => loopAt Γ_w02_DigitsGcd K [.r, .r, .l, .r, .b] w02_DigitsGcd_c [] w02_DigitsGcd_fin (fun _ _ => none) w02_DigitsGcd_fin K (w02_DigitsGcd_mk0 a b c t28 t29 t30)) a b c := by kernel_rfl
  rw [e]
  rw [show (fun (a : List Int) (b : List Int) (c : List Int) (t28 : List (List Int)) (t29 : Int) (t30 : Int) => loopAt Γ_w02_DigitsGcd K [.r, .r, .l, .r, .b] w02_DigitsGcd_c [] w02_DigitsGcd_fin (fun _ _ => none) w02_DigitsGcd_fin K (w02_DigitsGcd_mk0 a b c t28 t29 t30)) = _ from funext fun a => funext fun b => funext fun c => funext fun t28 => funext fun t29 => funext fun t30 => w02_DigitsGcd_loop0 K K a b c t28 t29 t30]
  rfl
theorem env_w02_DigitsGcd : EnvOK Tryd.prog G Γ_w02_DigitsGcd := ⟨T_ok, ((phi_cons fn_w02_writes (phi_cons fn_limbs_Check (phi_cons fn_limbs_Mul (phi_cons fn_digits_Gcd (phi_cons fn_limbs_Div (phi_cons fn_slices_Equal_api_Nat_uint32 (phi_cons fn_limbs_Of phi_nil))))))) : PhiOK Tryd.prog G Γ_w02_DigitsGcd.Φ), fun _ _ h => (by cases h), mixed⟩
theorem fn_w02_DigitsGcd : FnOK Tryd.prog G 4 ⟨(.pair (.sl (.int .u32)) (.pair (.sl (.int .u32)) (.pair (.sl (.int .u32)) .unit))), (.pair .bool .unit), [], S.w02_DigitsGcd, none⟩ := FnOK.of env_w02_DigitsGcd Tryd.func4 (by kernel_rfl) (by kernel_rfl) (of_decide_eq_true (by kernel_rfl)) (fun x y h => by obtain ⟨K, hK⟩ := w02_DigitsGcd_ok x y h; exact ⟨K, (w02_DigitsGcd_eq K x.1 x.2.1 x.2.2.1).trans hK⟩)

noncomputable def Γ_w02_DigitsPlaces : Env := { T := T, Φ := fun i => bif Nat.beq i 9 then some ⟨.unit, (.pair .bool .unit), [], S.w02_writes, none⟩ else bif Nat.beq i 15 then some ⟨(.pair (.sl (.int .u32)) .unit), (.pair (.int .i64) .unit), [], S.limbs_Check, none⟩ else bif Nat.beq i 21 then some ⟨(.pair (.sl (.int .u32)) .unit), (.pair .str .unit), [], S.digits_Text, none⟩ else bif Nat.beq i 22 then some ⟨(.pair (.int .i64) .unit), (.pair (.sl (.int .u32)) (.pair (.int .i64) .unit)), [], S.digits_Ten, none⟩ else bif Nat.beq i 23 then some ⟨(.pair (.sl (.int .u32)) (.pair (.sl (.int .u32)) .unit)), (.pair (.int .i64) .unit), [], S.limbs_Compare, none⟩ else none, ann := fun i => [], ord := fun i => [] }
theorem w02_DigitsPlaces_eq (K : Nat) (a : List Int) : exF Γ_w02_DigitsPlaces K Tryd.f5 (.pair (.sl (.int .u32)) .unit) (.pair .bool .unit) [] (a, ()) = w02_DigitsPlaces a := by kernel_rfl
theorem env_w02_DigitsPlaces : EnvOK Tryd.prog G Γ_w02_DigitsPlaces := ⟨T_ok, ((phi_cons fn_w02_writes (phi_cons fn_limbs_Check (phi_cons fn_digits_Text (phi_cons fn_digits_Ten (phi_cons fn_limbs_Compare phi_nil))))) : PhiOK Tryd.prog G Γ_w02_DigitsPlaces.Φ), fun _ _ h => (by cases h), mixed⟩
theorem fn_w02_DigitsPlaces : FnOK Tryd.prog G 5 ⟨(.pair (.sl (.int .u32)) .unit), (.pair .bool .unit), [], (fun x => w02_DigitsPlaces x.1), none⟩ := FnOK.of env_w02_DigitsPlaces Tryd.func5 (by kernel_rfl) (by kernel_rfl) (of_decide_eq_true (by kernel_rfl)) (fun x y h => ⟨0, (w02_DigitsPlaces_eq 0 x.1).trans h⟩)

noncomputable def Γ_w02_DigitsTens : Env := { T := T, Φ := fun i => bif Nat.beq i 9 then some ⟨.unit, (.pair .bool .unit), [], S.w02_writes, none⟩ else bif Nat.beq i 21 then some ⟨(.pair (.sl (.int .u32)) .unit), (.pair .str .unit), [], S.digits_Text, none⟩ else bif Nat.beq i 22 then some ⟨(.pair (.int .i64) .unit), (.pair (.sl (.int .u32)) (.pair (.int .i64) .unit)), [], S.digits_Ten, none⟩ else bif Nat.beq i 24 then some ⟨(.pair .str (.pair (.int .i64) .unit)), (.pair .str .unit), [], S.strings_Repeat, none⟩ else none, ann := fun i => [], ord := fun i => [] }
theorem w02_DigitsTens_eq (K : Nat) (n : Int) : exF Γ_w02_DigitsTens K Tryd.f6 (.pair (.int .i64) .unit) (.pair .bool .unit) [] (n, ()) = w02_DigitsTens n := by kernel_rfl
theorem env_w02_DigitsTens : EnvOK Tryd.prog G Γ_w02_DigitsTens := ⟨T_ok, ((phi_cons fn_w02_writes (phi_cons fn_digits_Text (phi_cons fn_digits_Ten (phi_cons fn_strings_Repeat phi_nil)))) : PhiOK Tryd.prog G Γ_w02_DigitsTens.Φ), fun _ _ h => (by cases h), mixed⟩
theorem fn_w02_DigitsTens : FnOK Tryd.prog G 6 ⟨(.pair (.int .i64) .unit), (.pair .bool .unit), [], (fun x => w02_DigitsTens x.1), none⟩ := FnOK.of env_w02_DigitsTens Tryd.func6 (by kernel_rfl) (by kernel_rfl) (of_decide_eq_true (by kernel_rfl)) (fun x y h => ⟨0, (w02_DigitsTens_eq 0 x.1).trans h⟩)

noncomputable def Γ_ref_Of : Env := { T := T, Φ := fun i => bif Nat.beq i 28 then some ⟨(.pair (.sl (.int .i64)) .unit), (.pair (.sl (.int .i64)) .unit), [], S.ref_Cut, none⟩ else none, ann := fun i => bif Nat.beq i 3 then [(0, .c (.data (.int .u32))), (3, .c (.own 100 3 (.int .i64))), (4, .c .sc)] else bif Nat.beq i 7 then [(0, .c (.data (.int .u32))), (3, .c (.own 100 3 (.int .i64))), (4, .c .sc), (5, .c .sc), (6, .c .sc)] else [], ord := fun i => [] }
noncomputable def ref_Of_c : Code := (Tryd.f25.body).getD .skip
noncomputable def ref_Of_fin := finish Γ_ref_Of Tryd.f25.results.toList (.pair (.sl (.int .i64)) .unit) []
noncomputable def ref_Of_mk0 (a : List Int) (out : List Int) (i : Int) : St := { t := (upd (upd (upd (fun _ => .undef) 0 (.one (.sl (.int .u32) a))) 3 (.one (.own 100))) 4 (.one (.int .i64 i))), m := (upd (upd (fun _ => .free) 0 .held) 100 (.row true 3 (.int .i64) out)), nx := 1000000, n := 31 }
noncomputable def ref_Of_mk1 (a : List Int) (out : List Int) (i : Int) (n2 : Int) (k : Int) : St := { t := (upd (upd (upd (upd (upd (fun _ => .undef) 0 (.one (.sl (.int .u32) a))) 3 (.one (.own 100))) 4 (.one (.int .i64 i))) 5 (.one (.int .i64 n2))) 6 (.one (.int .i64 k))), m := (upd (upd (fun _ => .free) 0 .held) 100 (.row true 3 (.int .i64) out)), nx := 1000000, n := 31 }
theorem ref_Of_loop1 (K : Nat) (κ0 : St → Option (Den (.pair (.sl (.int .i64)) .unit))) : ∀ (n : Nat) (a : List Int) (out : List Int) (i : Int) (n2 : Int) (k : Int), loopAt Γ_ref_Of K [.r, .r, .l, .r, .b, .c, .r, .l, .b, .r, .r, .b] ref_Of_c [fun st => mask [(0, .c (.data (.int .u32))), (3, .c (.own 100 3 (.int .i64))), (4, .c .sc)] 1000000 st (κ0)] ref_Of_fin (fun _ _ => none) ref_Of_fin n (ref_Of_mk1 a out i n2 k) = ref_Of_l1 K (fun (a : List Int) (out : List Int) (i : Int) => κ0 (ref_Of_mk0 a out i)) n a out i n2 k := by
  intro n
  induction n with
  | zero => intro a out i n2 k; kernel_rfl
  | succ n ih =>
    intro a out i n2 k
    have e : loopAt Γ_ref_Of K [.r, .r, .l, .r, .b, .c, .r, .l, .b, .r, .r, .b] ref_Of_c [fun st => mask [(0, .c (.data (.int .u32))), (3, .c (.own 100 3 (.int .i64))), (4, .c .sc)] 1000000 st (κ0)] ref_Of_fin (fun _ _ => none) ref_Of_fin (n + 1) (ref_Of_mk1 a out i n2 k) = ref_Of_s1 (fun (a : List Int) (out : List Int) (i : Int) => κ0 (ref_Of_mk0 a out i)) (fun (a : List Int) (out : List Int) (i : Int) (n2 : Int) (k : Int) => loopAt Γ_ref_Of K [.r, .r, .l, .r, .b, .c, .r, .l, .b, .r, .r, .b] ref_Of_c [fun st => mask [(0, .c (.data (.int .u32))), (3, .c (.own 100 3 (.int .i64))), (4, .c .sc)] 1000000 st (κ0)] ref_Of_fin (fun _ _ => none) ref_Of_fin n (ref_Of_mk1 a out i n2 k)) a out i n2 k := by kernel_rfl
    rw [e]
    rw [show (fun (a : List Int) (out : List Int) (i : Int) (n2 : Int) (k : Int) => loopAt Γ_ref_Of K [.r, .r, .l, .r, .b, .c, .r, .l, .b, .r, .r, .b] ref_Of_c [fun st => mask [(0, .c (.data (.int .u32))), (3, .c (.own 100 3 (.int .i64))), (4, .c .sc)] 1000000 st (κ0)] ref_Of_fin (fun _ _ => none) ref_Of_fin n (ref_Of_mk1 a out i n2 k)) = _ from funext fun a => funext fun out => funext fun i => funext fun n2 => funext fun k => ih a out i n2 k]
    rfl
theorem ref_Of_loop0 (K : Nat) : ∀ (n : Nat) (a : List Int) (out : List Int) (i : Int), loopAt Γ_ref_Of K [.r, .r, .l, .r, .b] ref_Of_c [] ref_Of_fin (fun _ _ => none) ref_Of_fin n (ref_Of_mk0 a out i) = ref_Of_l0 K n a out i := by
  intro n
  induction n with
  | zero => intro a out i; kernel_rfl
  | succ n ih =>
    intro a out i
    have e : loopAt Γ_ref_Of K [.r, .r, .l, .r, .b] ref_Of_c [] ref_Of_fin (fun _ _ => none) ref_Of_fin (n + 1) (ref_Of_mk0 a out i) = ref_Of_s0 (fun (a : List Int) (out : List Int) (i : Int) (n2 : Int) (k : Int) => loopAt Γ_ref_Of K [.r, .r, .l, .r, .b, .c, .r, .l, .b, .r, .r, .b] ref_Of_c [fun st => mask [(0, .c (.data (.int .u32))), (3, .c (.own 100 3 (.int .i64))), (4, .c .sc)] 1000000 st (loopAt Γ_ref_Of K [.r, .r, .l, .r, .b] ref_Of_c [] ref_Of_fin (fun _ _ => none) ref_Of_fin n)] ref_Of_fin (fun _ _ => none) ref_Of_fin K (ref_Of_mk1 a out i n2 k)) (fun (a : List Int) (out : List Int) (i : Int) => loopAt Γ_ref_Of K [.r, .r, .l, .r, .b] ref_Of_c [] ref_Of_fin (fun _ _ => none) ref_Of_fin n (ref_Of_mk0 a out i)) a out i := by kernel_rfl
    rw [e]
    rw [show (fun (a : List Int) (out : List Int) (i : Int) (n2 : Int) (k : Int) => loopAt Γ_ref_Of K [.r, .r, .l, .r, .b, .c, .r, .l, .b, .r, .r, .b] ref_Of_c [fun st => mask [(0, .c (.data (.int .u32))), (3, .c (.own 100 3 (.int .i64))), (4, .c .sc)] 1000000 st (loopAt Γ_ref_Of K [.r, .r, .l, .r, .b] ref_Of_c [] ref_Of_fin (fun _ _ => none) ref_Of_fin n)] ref_Of_fin (fun _ _ => none) ref_Of_fin K (ref_Of_mk1 a out i n2 k)) = _ from funext fun a => funext fun out => funext fun i => funext fun n2 => funext fun k => ref_Of_loop1 K (loopAt Γ_ref_Of K [.r, .r, .l, .r, .b] ref_Of_c [] ref_Of_fin (fun _ _ => none) ref_Of_fin n) K a out i n2 k]
    rw [show (fun (a : List Int) (out : List Int) (i : Int) => loopAt Γ_ref_Of K [.r, .r, .l, .r, .b] ref_Of_c [] ref_Of_fin (fun _ _ => none) ref_Of_fin n (ref_Of_mk0 a out i)) = _ from funext fun a => funext fun out => funext fun i => ih a out i]
    rfl
theorem ref_Of_eq (K : Nat) (a : List Int) : exF Γ_ref_Of K Tryd.f25 (.pair (.sl (.int .u32)) .unit) (.pair (.sl (.int .i64)) .unit) [] (a, ()) = ref_Of K a := by
  have e : exF Γ_ref_Of K Tryd.f25 (.pair (.sl (.int .u32)) .unit) (.pair (.sl (.int .i64)) .unit) [] (a, ()) = ref_Of_b (fun (a : List Int) (out : List Int) (i : Int) => loopAt Γ_ref_Of K [.r, .r, .l, .r, .b] ref_Of_c [] ref_Of_fin (fun _ _ => none) ref_Of_fin K (ref_Of_mk0 a out i)) a := by kernel_rfl
  rw [e]
  rw [show (fun (a : List Int) (out : List Int) (i : Int) => loopAt Γ_ref_Of K [.r, .r, .l, .r, .b] ref_Of_c [] ref_Of_fin (fun _ _ => none) ref_Of_fin K (ref_Of_mk0 a out i)) = _ from funext fun a => funext fun out => funext fun i => ref_Of_loop0 K K a out i]
  rfl
theorem env_ref_Of : EnvOK Tryd.prog G Γ_ref_Of := ⟨T_ok, ((phi_cons fn_ref_Cut phi_nil) : PhiOK Tryd.prog G Γ_ref_Of.Φ), fun _ _ h => (by cases h), mixed⟩
theorem fn_ref_Of : FnOK Tryd.prog G 25 ⟨(.pair (.sl (.int .u32)) .unit), (.pair (.sl (.int .i64)) .unit), [], S.ref_Of, none⟩ := FnOK.of env_ref_Of Tryd.func25 (by kernel_rfl) (by kernel_rfl) (of_decide_eq_true (by kernel_rfl)) (fun x y h => by obtain ⟨K, hK⟩ := ref_Of_ok x y h; exact ⟨K, (ref_Of_eq K x.1).trans hK⟩)

noncomputable def Γ_ref_Compare : Env := { T := T, Φ := fun i => none, ann := fun i => bif Nat.beq i 2 then [(0, .c (.data (.int .i64))), (1, .c (.data (.int .i64))), (5, .c .sc)] else [], ord := fun i => [] }
noncomputable def ref_Compare_c : Code := (Tryd.f45.body).getD .skip
noncomputable def ref_Compare_fin := finish Γ_ref_Compare Tryd.f45.results.toList (.pair (.int .i64) .unit) []
noncomputable def ref_Compare_mk0 (a : List Int) (b : List Int) (i : Int) : St := { t := (upd (upd (upd (fun _ => .undef) 0 (.one (.sl (.int .i64) a))) 1 (.one (.sl (.int .i64) b))) 5 (.one (.int .i64 i))), m := (upd (fun _ => .free) 0 .held), nx := 1000000, n := 40 }
theorem ref_Compare_loop0 (K : Nat) : ∀ (n : Nat) (a : List Int) (b : List Int) (i : Int), loopAt Γ_ref_Compare K [.r, .l, .r, .b] ref_Compare_c [] ref_Compare_fin (fun _ _ => none) ref_Compare_fin n (ref_Compare_mk0 a b i) = ref_Compare_l0 K n a b i := by
  intro n
  induction n with
  | zero => intro a b i; kernel_rfl
  | succ n ih =>
    intro a b i
    have e : loopAt Γ_ref_Compare K [.r, .l, .r, .b] ref_Compare_c [] ref_Compare_fin (fun _ _ => none) ref_Compare_fin (n + 1) (ref_Compare_mk0 a b i) = ref_Compare_s0 (fun (a : List Int) (b : List Int) (i : Int) => loopAt Γ_ref_Compare K [.r, .l, .r, .b] ref_Compare_c [] ref_Compare_fin (fun _ _ => none) ref_Compare_fin n (ref_Compare_mk0 a b i)) a b i := by kernel_rfl
    rw [e]
    rw [show (fun (a : List Int) (b : List Int) (i : Int) => loopAt Γ_ref_Compare K [.r, .l, .r, .b] ref_Compare_c [] ref_Compare_fin (fun _ _ => none) ref_Compare_fin n (ref_Compare_mk0 a b i)) = _ from funext fun a => funext fun b => funext fun i => ih a b i]
    rfl
theorem ref_Compare_eq (K : Nat) (a : List Int) (b : List Int) : exF Γ_ref_Compare K Tryd.f45 (.pair (.sl (.int .i64)) (.pair (.sl (.int .i64)) .unit)) (.pair (.int .i64) .unit) [] (a, b, ()) = ref_Compare K a b := by
  have e : exF Γ_ref_Compare K Tryd.f45 (.pair (.sl (.int .i64)) (.pair (.sl (.int .i64)) .unit)) (.pair (.int .i64) .unit) [] (a, b, ()) = ref_Compare_b (fun (a : List Int) (b : List Int) (i : Int) => loopAt Γ_ref_Compare K [.r, .l, .r, .b] ref_Compare_c [] ref_Compare_fin (fun _ _ => none) ref_Compare_fin K (ref_Compare_mk0 a b i)) a b := by kernel_rfl
  rw [e]
  rw [show (fun (a : List Int) (b : List Int) (i : Int) => loopAt Γ_ref_Compare K [.r, .l, .r, .b] ref_Compare_c [] ref_Compare_fin (fun _ _ => none) ref_Compare_fin K (ref_Compare_mk0 a b i)) = _ from funext fun a => funext fun b => funext fun i => ref_Compare_loop0 K K a b i]
  rfl
theorem env_ref_Compare : EnvOK Tryd.prog G Γ_ref_Compare := ⟨T_ok, (phi_nil : PhiOK Tryd.prog G Γ_ref_Compare.Φ), fun _ _ h => (by cases h), mixed⟩
theorem fn_ref_Compare : FnOK Tryd.prog G 45 ⟨(.pair (.sl (.int .i64)) (.pair (.sl (.int .i64)) .unit)), (.pair (.int .i64) .unit), [], S.ref_Compare, none⟩ := FnOK.of env_ref_Compare Tryd.func45 (by kernel_rfl) (by kernel_rfl) (of_decide_eq_true (by kernel_rfl)) (fun x y h => by obtain ⟨K, hK⟩ := ref_Compare_ok x y h; exact ⟨K, (ref_Compare_eq K x.1 x.2.1).trans hK⟩)

noncomputable def Γ_ref_Sub : Env := { T := T, Φ := fun i => bif Nat.beq i 28 then some ⟨(.pair (.sl (.int .i64)) .unit), (.pair (.sl (.int .i64)) .unit), [], S.ref_Cut, none⟩ else none, ann := fun i => bif Nat.beq i 4 then [(0, .c (.data (.int .i64))), (1, .c (.data (.int .i64))), (5, .c (.own 100 3 (.int .i64))), (6, .c .sc), (7, .c .sc)] else [], ord := fun i => [] }
noncomputable def ref_Sub_c : Code := (Tryd.f46.body).getD .skip
noncomputable def ref_Sub_fin := finish Γ_ref_Sub Tryd.f46.results.toList (.pair (.sl (.int .i64)) .unit) []
noncomputable def ref_Sub_mk0 (a : List Int) (b : List Int) (out : List Int) (owed : Int) (i : Int) : St := { t := (upd (upd (upd (upd (upd (fun _ => .undef) 0 (.one (.sl (.int .i64) a))) 1 (.one (.sl (.int .i64) b))) 5 (.one (.own 100))) 6 (.one (.int .i64 owed))) 7 (.one (.int .i64 i))), m := (upd (upd (fun _ => .free) 0 .held) 100 (.row true 3 (.int .i64) out)), nx := 1000000, n := 41 }
theorem ref_Sub_loop0 (K : Nat) : ∀ (n : Nat) (a : List Int) (b : List Int) (out : List Int) (owed : Int) (i : Int), loopAt Γ_ref_Sub K [.r, .r, .r, .l, .r, .b] ref_Sub_c [] ref_Sub_fin (fun _ _ => none) ref_Sub_fin n (ref_Sub_mk0 a b out owed i) = ref_Sub_l0 K n a b out owed i := by
  intro n
  induction n with
  | zero => intro a b out owed i; kernel_rfl
  | succ n ih =>
    intro a b out owed i
    have e : loopAt Γ_ref_Sub K [.r, .r, .r, .l, .r, .b] ref_Sub_c [] ref_Sub_fin (fun _ _ => none) ref_Sub_fin (n + 1) (ref_Sub_mk0 a b out owed i) = ref_Sub_s0 (fun (a : List Int) (b : List Int) (out : List Int) (owed : Int) (i : Int) => loopAt Γ_ref_Sub K [.r, .r, .r, .l, .r, .b] ref_Sub_c [] ref_Sub_fin (fun _ _ => none) ref_Sub_fin n (ref_Sub_mk0 a b out owed i)) a b out owed i := by kernel_rfl
    rw [e]
    rw [show (fun (a : List Int) (b : List Int) (out : List Int) (owed : Int) (i : Int) => loopAt Γ_ref_Sub K [.r, .r, .r, .l, .r, .b] ref_Sub_c [] ref_Sub_fin (fun _ _ => none) ref_Sub_fin n (ref_Sub_mk0 a b out owed i)) = _ from funext fun a => funext fun b => funext fun out => funext fun owed => funext fun i => ih a b out owed i]
    rfl
theorem ref_Sub_eq (K : Nat) (a : List Int) (b : List Int) : exF Γ_ref_Sub K Tryd.f46 (.pair (.sl (.int .i64)) (.pair (.sl (.int .i64)) .unit)) (.pair (.sl (.int .i64)) .unit) [] (a, b, ()) = ref_Sub K a b := by
  have e : exF Γ_ref_Sub K Tryd.f46 (.pair (.sl (.int .i64)) (.pair (.sl (.int .i64)) .unit)) (.pair (.sl (.int .i64)) .unit) [] (a, b, ()) = ref_Sub_b (fun (a : List Int) (b : List Int) (out : List Int) (owed : Int) (i : Int) => loopAt Γ_ref_Sub K [.r, .r, .r, .l, .r, .b] ref_Sub_c [] ref_Sub_fin (fun _ _ => none) ref_Sub_fin K (ref_Sub_mk0 a b out owed i)) a b := by kernel_rfl
  rw [e]
  rw [show (fun (a : List Int) (b : List Int) (out : List Int) (owed : Int) (i : Int) => loopAt Γ_ref_Sub K [.r, .r, .r, .l, .r, .b] ref_Sub_c [] ref_Sub_fin (fun _ _ => none) ref_Sub_fin K (ref_Sub_mk0 a b out owed i)) = _ from funext fun a => funext fun b => funext fun out => funext fun owed => funext fun i => ref_Sub_loop0 K K a b out owed i]
  rfl
theorem env_ref_Sub : EnvOK Tryd.prog G Γ_ref_Sub := ⟨T_ok, ((phi_cons fn_ref_Cut phi_nil) : PhiOK Tryd.prog G Γ_ref_Sub.Φ), fun _ _ h => (by cases h), mixed⟩
theorem fn_ref_Sub : FnOK Tryd.prog G 46 ⟨(.pair (.sl (.int .i64)) (.pair (.sl (.int .i64)) .unit)), (.pair (.sl (.int .i64)) .unit), [], S.ref_Sub, none⟩ := FnOK.of env_ref_Sub Tryd.func46 (by kernel_rfl) (by kernel_rfl) (of_decide_eq_true (by kernel_rfl)) (fun x y h => by obtain ⟨K, hK⟩ := ref_Sub_ok x y h; exact ⟨K, (ref_Sub_eq K x.1 x.2.1).trans hK⟩)

noncomputable def Γ_ref_Div : Env := { T := T, Φ := fun i => bif Nat.beq i 28 then some ⟨(.pair (.sl (.int .i64)) .unit), (.pair (.sl (.int .i64)) .unit), [], S.ref_Cut, none⟩ else bif Nat.beq i 45 then some ⟨(.pair (.sl (.int .i64)) (.pair (.sl (.int .i64)) .unit)), (.pair (.int .i64) .unit), [], S.ref_Compare, none⟩ else bif Nat.beq i 46 then some ⟨(.pair (.sl (.int .i64)) (.pair (.sl (.int .i64)) .unit)), (.pair (.sl (.int .i64)) .unit), [], S.ref_Sub, none⟩ else none, ann := fun i => bif Nat.beq i 4 then [(0, .c (.data (.int .i64))), (1, .c (.data (.int .i64))), (6, .c (.own 100 3 (.int .i64))), (7, .c (.data (.int .i64))), (8, .c .sc)] else bif Nat.beq i 7 then [(0, .c (.data (.int .i64))), (1, .c (.data (.int .i64))), (6, .c (.own 100 3 (.int .i64))), (7, .c (.data (.int .i64))), (8, .c .sc)] else [], ord := fun i => [] }
noncomputable def ref_Div_c : Code := (Tryd.f26.body).getD .skip
noncomputable def ref_Div_fin := finish Γ_ref_Div Tryd.f26.results.toList (.pair (.sl (.int .i64)) (.pair (.sl (.int .i64)) .unit)) []
noncomputable def ref_Div_mk0 (a : List Int) (b : List Int) (q : List Int) (r : List Int) (i : Int) : St := { t := (upd (upd (upd (upd (upd (fun _ => .undef) 0 (.one (.sl (.int .i64) a))) 1 (.one (.sl (.int .i64) b))) 6 (.one (.own 100))) 7 (.one (.sl (.int .i64) r))) 8 (.one (.int .i64 i))), m := (upd (upd (fun _ => .free) 0 .held) 100 (.row true 3 (.int .i64) q)), nx := 1000000, n := 43 }
noncomputable def ref_Div_mk1 (a : List Int) (b : List Int) (q : List Int) (r : List Int) (i : Int) : St := { t := (upd (upd (upd (upd (upd (fun _ => .undef) 0 (.one (.sl (.int .i64) a))) 1 (.one (.sl (.int .i64) b))) 6 (.one (.own 100))) 7 (.one (.sl (.int .i64) r))) 8 (.one (.int .i64 i))), m := (upd (upd (fun _ => .free) 0 .held) 100 (.row true 3 (.int .i64) q)), nx := 1000000, n := 43 }
theorem ref_Div_loop1 (K : Nat) (κ0 : St → Option (Den (.pair (.sl (.int .i64)) (.pair (.sl (.int .i64)) .unit)))) : ∀ (n : Nat) (a : List Int) (b : List Int) (q : List Int) (r : List Int) (i : Int), loopAt Γ_ref_Div K [.r, .r, .r, .l, .r, .b, .c, .r, .l, .b, .r, .b] ref_Div_c [fun st => mask [(0, .c (.data (.int .i64))), (1, .c (.data (.int .i64))), (6, .c (.own 100 3 (.int .i64))), (7, .c (.data (.int .i64))), (8, .c .sc)] 1000000 st (κ0)] ref_Div_fin (fun _ _ => none) ref_Div_fin n (ref_Div_mk1 a b q r i) = ref_Div_l1 K (fun (a : List Int) (b : List Int) (q : List Int) (r : List Int) (i : Int) => κ0 (ref_Div_mk0 a b q r i)) n a b q r i := by
  intro n
  induction n with
  | zero => intro a b q r i; kernel_rfl
  | succ n ih =>
    intro a b q r i
    have e : loopAt Γ_ref_Div K [.r, .r, .r, .l, .r, .b, .c, .r, .l, .b, .r, .b] ref_Div_c [fun st => mask [(0, .c (.data (.int .i64))), (1, .c (.data (.int .i64))), (6, .c (.own 100 3 (.int .i64))), (7, .c (.data (.int .i64))), (8, .c .sc)] 1000000 st (κ0)] ref_Div_fin (fun _ _ => none) ref_Div_fin (n + 1) (ref_Div_mk1 a b q r i) = ref_Div_s1 (fun (a : List Int) (b : List Int) (q : List Int) (r : List Int) (i : Int) => κ0 (ref_Div_mk0 a b q r i)) (fun (a : List Int) (b : List Int) (q : List Int) (r : List Int) (i : Int) => loopAt Γ_ref_Div K [.r, .r, .r, .l, .r, .b, .c, .r, .l, .b, .r, .b] ref_Div_c [fun st => mask [(0, .c (.data (.int .i64))), (1, .c (.data (.int .i64))), (6, .c (.own 100 3 (.int .i64))), (7, .c (.data (.int .i64))), (8, .c .sc)] 1000000 st (κ0)] ref_Div_fin (fun _ _ => none) ref_Div_fin n (ref_Div_mk1 a b q r i)) a b q r i := by kernel_rfl
    rw [e]
    rw [show (fun (a : List Int) (b : List Int) (q : List Int) (r : List Int) (i : Int) => loopAt Γ_ref_Div K [.r, .r, .r, .l, .r, .b, .c, .r, .l, .b, .r, .b] ref_Div_c [fun st => mask [(0, .c (.data (.int .i64))), (1, .c (.data (.int .i64))), (6, .c (.own 100 3 (.int .i64))), (7, .c (.data (.int .i64))), (8, .c .sc)] 1000000 st (κ0)] ref_Div_fin (fun _ _ => none) ref_Div_fin n (ref_Div_mk1 a b q r i)) = _ from funext fun a => funext fun b => funext fun q => funext fun r => funext fun i => ih a b q r i]
    rfl
theorem ref_Div_loop0 (K : Nat) : ∀ (n : Nat) (a : List Int) (b : List Int) (q : List Int) (r : List Int) (i : Int), loopAt Γ_ref_Div K [.r, .r, .r, .l, .r, .b] ref_Div_c [] ref_Div_fin (fun _ _ => none) ref_Div_fin n (ref_Div_mk0 a b q r i) = ref_Div_l0 K n a b q r i := by
  intro n
  induction n with
  | zero => intro a b q r i; kernel_rfl
  | succ n ih =>
    intro a b q r i
    have e : loopAt Γ_ref_Div K [.r, .r, .r, .l, .r, .b] ref_Div_c [] ref_Div_fin (fun _ _ => none) ref_Div_fin (n + 1) (ref_Div_mk0 a b q r i) = ref_Div_s0 (fun (a : List Int) (b : List Int) (q : List Int) (r : List Int) (i : Int) => loopAt Γ_ref_Div K [.r, .r, .r, .l, .r, .b, .c, .r, .l, .b, .r, .b] ref_Div_c [fun st => mask [(0, .c (.data (.int .i64))), (1, .c (.data (.int .i64))), (6, .c (.own 100 3 (.int .i64))), (7, .c (.data (.int .i64))), (8, .c .sc)] 1000000 st (loopAt Γ_ref_Div K [.r, .r, .r, .l, .r, .b] ref_Div_c [] ref_Div_fin (fun _ _ => none) ref_Div_fin n)] ref_Div_fin (fun _ _ => none) ref_Div_fin K (ref_Div_mk1 a b q r i)) (fun (a : List Int) (b : List Int) (q : List Int) (r : List Int) (i : Int) => loopAt Γ_ref_Div K [.r, .r, .r, .l, .r, .b] ref_Div_c [] ref_Div_fin (fun _ _ => none) ref_Div_fin n (ref_Div_mk0 a b q r i)) a b q r i := by kernel_rfl
    rw [e]
    rw [show (fun (a : List Int) (b : List Int) (q : List Int) (r : List Int) (i : Int) => loopAt Γ_ref_Div K [.r, .r, .r, .l, .r, .b, .c, .r, .l, .b, .r, .b] ref_Div_c [fun st => mask [(0, .c (.data (.int .i64))), (1, .c (.data (.int .i64))), (6, .c (.own 100 3 (.int .i64))), (7, .c (.data (.int .i64))), (8, .c .sc)] 1000000 st (loopAt Γ_ref_Div K [.r, .r, .r, .l, .r, .b] ref_Div_c [] ref_Div_fin (fun _ _ => none) ref_Div_fin n)] ref_Div_fin (fun _ _ => none) ref_Div_fin K (ref_Div_mk1 a b q r i)) = _ from funext fun a => funext fun b => funext fun q => funext fun r => funext fun i => ref_Div_loop1 K (loopAt Γ_ref_Div K [.r, .r, .r, .l, .r, .b] ref_Div_c [] ref_Div_fin (fun _ _ => none) ref_Div_fin n) K a b q r i]
    rw [show (fun (a : List Int) (b : List Int) (q : List Int) (r : List Int) (i : Int) => loopAt Γ_ref_Div K [.r, .r, .r, .l, .r, .b] ref_Div_c [] ref_Div_fin (fun _ _ => none) ref_Div_fin n (ref_Div_mk0 a b q r i)) = _ from funext fun a => funext fun b => funext fun q => funext fun r => funext fun i => ih a b q r i]
    rfl
theorem ref_Div_eq (K : Nat) (a : List Int) (b : List Int) : exF Γ_ref_Div K Tryd.f26 (.pair (.sl (.int .i64)) (.pair (.sl (.int .i64)) .unit)) (.pair (.sl (.int .i64)) (.pair (.sl (.int .i64)) .unit)) [] (a, b, ()) = ref_Div K a b := by
  have e : exF Γ_ref_Div K Tryd.f26 (.pair (.sl (.int .i64)) (.pair (.sl (.int .i64)) .unit)) (.pair (.sl (.int .i64)) (.pair (.sl (.int .i64)) .unit)) [] (a, b, ()) = ref_Div_b (fun (a : List Int) (b : List Int) (q : List Int) (r : List Int) (i : Int) => loopAt Γ_ref_Div K [.r, .r, .r, .l, .r, .b] ref_Div_c [] ref_Div_fin (fun _ _ => none) ref_Div_fin K (ref_Div_mk0 a b q r i)) a b := by kernel_rfl
  rw [e]
  rw [show (fun (a : List Int) (b : List Int) (q : List Int) (r : List Int) (i : Int) => loopAt Γ_ref_Div K [.r, .r, .r, .l, .r, .b] ref_Div_c [] ref_Div_fin (fun _ _ => none) ref_Div_fin K (ref_Div_mk0 a b q r i)) = _ from funext fun a => funext fun b => funext fun q => funext fun r => funext fun i => ref_Div_loop0 K K a b q r i]
  rfl
theorem env_ref_Div : EnvOK Tryd.prog G Γ_ref_Div := ⟨T_ok, ((phi_cons fn_ref_Cut (phi_cons fn_ref_Compare (phi_cons fn_ref_Sub phi_nil))) : PhiOK Tryd.prog G Γ_ref_Div.Φ), fun _ _ h => (by cases h), mixed⟩
theorem fn_ref_Div : FnOK Tryd.prog G 26 ⟨(.pair (.sl (.int .i64)) (.pair (.sl (.int .i64)) .unit)), (.pair (.sl (.int .i64)) (.pair (.sl (.int .i64)) .unit)), [], S.ref_Div, none⟩ := FnOK.of env_ref_Div Tryd.func26 (by kernel_rfl) (by kernel_rfl) (of_decide_eq_true (by kernel_rfl)) (fun x y h => by obtain ⟨K, hK⟩ := ref_Div_ok x y h; exact ⟨K, (ref_Div_eq K x.1 x.2.1).trans hK⟩)

noncomputable def Γ_w02_DigitsBack : Env := { T := T, Φ := fun i => bif Nat.beq i 9 then some ⟨.unit, (.pair .bool .unit), [], S.w02_writes, none⟩ else bif Nat.beq i 10 then some ⟨(.pair .str .unit), (.pair (.sl (.int .u32)) (.pair (.int .i64) .unit)), [], S.digits_Parse, none⟩ else bif Nat.beq i 15 then some ⟨(.pair (.sl (.int .u32)) .unit), (.pair (.int .i64) .unit), [], S.limbs_Check, none⟩ else bif Nat.beq i 19 then some ⟨(.pair (.sl (.int .u32)) (.pair (.sl (.int .u32)) .unit)), (.pair .bool .unit), [], S.slices_Equal_api_Nat_uint32, none⟩ else bif Nat.beq i 21 then some ⟨(.pair (.sl (.int .u32)) .unit), (.pair .str .unit), [], S.digits_Text, none⟩ else bif Nat.beq i 24 then some ⟨(.pair .str (.pair (.int .i64) .unit)), (.pair .str .unit), [], S.strings_Repeat, none⟩ else bif Nat.beq i 25 then some ⟨(.pair (.sl (.int .u32)) .unit), (.pair (.sl (.int .i64)) .unit), [], S.ref_Of, none⟩ else bif Nat.beq i 26 then some ⟨(.pair (.sl (.int .i64)) (.pair (.sl (.int .i64)) .unit)), (.pair (.sl (.int .i64)) (.pair (.sl (.int .i64)) .unit)), [], S.ref_Div, none⟩ else none, ann := fun i => bif Nat.beq i 10 then [(0, .c (.data (.int .u32))), (1, .c .sc), (5, .c .sc), (6, .c (.data (.int .i64))), (7, .c .sc)] else [], ord := fun i => [] }
noncomputable def w02_DigitsBack_c : Code := (Tryd.f7.body).getD .skip
noncomputable def w02_DigitsBack_fin := finish Γ_w02_DigitsBack Tryd.f7.results.toList (.pair .bool .unit) []
noncomputable def w02_DigitsBack_mk0 (a : List Int) (noughts : Int) (s : ByteArray) (d : List Int) (i : Int) : St := { t := (upd (upd (upd (upd (upd (fun _ => .undef) 0 (.one (.sl (.int .u32) a))) 1 (.one (.int .i64 noughts))) 5 (.one (.str s))) 6 (.one (.sl (.int .i64) d))) 7 (.one (.int .i64 i))), m := (upd (fun _ => .free) 0 .held), nx := 1000000, n := 94 }
theorem w02_DigitsBack_loop0 (K : Nat) : ∀ (n : Nat) (a : List Int) (noughts : Int) (s : ByteArray) (d : List Int) (i : Int), loopAt Γ_w02_DigitsBack K [.r, .r, .r, .r, .r, .r, .l, .r, .b] w02_DigitsBack_c [] w02_DigitsBack_fin (fun _ _ => none) w02_DigitsBack_fin n (w02_DigitsBack_mk0 a noughts s d i) = w02_DigitsBack_l0 K n a noughts s d i := by
  intro n
  induction n with
  | zero => intro a noughts s d i; kernel_rfl
  | succ n ih =>
    intro a noughts s d i
    have e : loopAt Γ_w02_DigitsBack K [.r, .r, .r, .r, .r, .r, .l, .r, .b] w02_DigitsBack_c [] w02_DigitsBack_fin (fun _ _ => none) w02_DigitsBack_fin (n + 1) (w02_DigitsBack_mk0 a noughts s d i) = w02_DigitsBack_s0 (fun (a : List Int) (noughts : Int) (s : ByteArray) (d : List Int) (i : Int) => loopAt Γ_w02_DigitsBack K [.r, .r, .r, .r, .r, .r, .l, .r, .b] w02_DigitsBack_c [] w02_DigitsBack_fin (fun _ _ => none) w02_DigitsBack_fin n (w02_DigitsBack_mk0 a noughts s d i)) a noughts s d i := by kernel_rfl
    rw [e]
    rw [show (fun (a : List Int) (noughts : Int) (s : ByteArray) (d : List Int) (i : Int) => loopAt Γ_w02_DigitsBack K [.r, .r, .r, .r, .r, .r, .l, .r, .b] w02_DigitsBack_c [] w02_DigitsBack_fin (fun _ _ => none) w02_DigitsBack_fin n (w02_DigitsBack_mk0 a noughts s d i)) = _ from funext fun a => funext fun noughts => funext fun s => funext fun d => funext fun i => ih a noughts s d i]
    rfl
theorem w02_DigitsBack_eq (K : Nat) (a : List Int) (noughts : Int) : exF Γ_w02_DigitsBack K Tryd.f7 (.pair (.sl (.int .u32)) (.pair (.int .i64) .unit)) (.pair .bool .unit) [] (a, noughts, ()) = w02_DigitsBack K a noughts := by
  have e : exF Γ_w02_DigitsBack K Tryd.f7 (.pair (.sl (.int .u32)) (.pair (.int .i64) .unit)) (.pair .bool .unit) [] (a, noughts, ()) = w02_DigitsBack_b (fun (a : List Int) (noughts : Int) (s : ByteArray) (d : List Int) (i : Int) => loopAt Γ_w02_DigitsBack K [.r, .r, .r, .r, .r, .r, .l, .r, .b] w02_DigitsBack_c [] w02_DigitsBack_fin (fun _ _ => none) w02_DigitsBack_fin K (w02_DigitsBack_mk0 a noughts s d i)) a noughts := by kernel_rfl
  rw [e]
  rw [show (fun (a : List Int) (noughts : Int) (s : ByteArray) (d : List Int) (i : Int) => loopAt Γ_w02_DigitsBack K [.r, .r, .r, .r, .r, .r, .l, .r, .b] w02_DigitsBack_c [] w02_DigitsBack_fin (fun _ _ => none) w02_DigitsBack_fin K (w02_DigitsBack_mk0 a noughts s d i)) = _ from funext fun a => funext fun noughts => funext fun s => funext fun d => funext fun i => w02_DigitsBack_loop0 K K a noughts s d i]
  rfl
theorem env_w02_DigitsBack : EnvOK Tryd.prog G Γ_w02_DigitsBack := ⟨T_ok, ((phi_cons fn_w02_writes (phi_cons fn_digits_Parse (phi_cons fn_limbs_Check (phi_cons fn_slices_Equal_api_Nat_uint32 (phi_cons fn_digits_Text (phi_cons fn_strings_Repeat (phi_cons fn_ref_Of (phi_cons fn_ref_Div phi_nil)))))))) : PhiOK Tryd.prog G Γ_w02_DigitsBack.Φ), fun _ _ h => (by cases h), mixed⟩
theorem fn_w02_DigitsBack : FnOK Tryd.prog G 7 ⟨(.pair (.sl (.int .u32)) (.pair (.int .i64) .unit)), (.pair .bool .unit), [], S.w02_DigitsBack, none⟩ := FnOK.of env_w02_DigitsBack Tryd.func7 (by kernel_rfl) (by kernel_rfl) (of_decide_eq_true (by kernel_rfl)) (fun x y h => by obtain ⟨K, hK⟩ := w02_DigitsBack_ok x y h; exact ⟨K, (w02_DigitsBack_eq K x.1 x.2.1).trans hK⟩)

noncomputable def Γ_w02_DigitsLong : Env := { T := T, Φ := fun i => bif Nat.beq i 9 then some ⟨.unit, (.pair .bool .unit), [], S.w02_writes, none⟩ else bif Nat.beq i 10 then some ⟨(.pair .str .unit), (.pair (.sl (.int .u32)) (.pair (.int .i64) .unit)), [], S.digits_Parse, none⟩ else bif Nat.beq i 15 then some ⟨(.pair (.sl (.int .u32)) .unit), (.pair (.int .i64) .unit), [], S.limbs_Check, none⟩ else bif Nat.beq i 21 then some ⟨(.pair (.sl (.int .u32)) .unit), (.pair .str .unit), [], S.digits_Text, none⟩ else bif Nat.beq i 24 then some ⟨(.pair .str (.pair (.int .i64) .unit)), (.pair .str .unit), [], S.strings_Repeat, none⟩ else none, ann := fun i => [], ord := fun i => [] }
theorem w02_DigitsLong_eq (K : Nat) (n : Int) (digit : Int) : exF Γ_w02_DigitsLong K Tryd.f8 (.pair (.int .i64) (.pair (.int .u8) .unit)) (.pair .bool .unit) [] (n, digit, ()) = w02_DigitsLong n digit := by kernel_rfl
theorem env_w02_DigitsLong : EnvOK Tryd.prog G Γ_w02_DigitsLong := ⟨T_ok, ((phi_cons fn_w02_writes (phi_cons fn_digits_Parse (phi_cons fn_limbs_Check (phi_cons fn_digits_Text (phi_cons fn_strings_Repeat phi_nil))))) : PhiOK Tryd.prog G Γ_w02_DigitsLong.Φ), fun _ _ h => (by cases h), mixed⟩
theorem fn_w02_DigitsLong : FnOK Tryd.prog G 8 ⟨(.pair (.int .i64) (.pair (.int .u8) .unit)), (.pair .bool .unit), [], (fun x => w02_DigitsLong x.1 x.2.1), none⟩ := FnOK.of env_w02_DigitsLong Tryd.func8 (by kernel_rfl) (by kernel_rfl) (of_decide_eq_true (by kernel_rfl)) (fun x y h => ⟨0, (w02_DigitsLong_eq 0 x.1 x.2.1).trans h⟩)

end Go.L

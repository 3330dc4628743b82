/-
  The functions of the seat, each by its equation.
  No condition beyond those that each theorem names.
-/
import Derived.Test.YtdadepdcllachaaDoorT
import Derived.Test.YtdadepdcllachaaDoorB
import Derived.Test.YtdadepdcllachaaDoorE
import Derived.Test.YtdadepdcllachaaDoorProg

/-! LSeat9 -/
namespace Go.L
open Go.PM Go.Proofs
set_option linter.unusedVariables false
set_option maxRecDepth 100000
abbrev tI : Ty := (.pair .bool (.pair (.sl (.int .u32)) .unit))
abbrev tY : Ty := (.pair tI (.pair (.int .i64) .unit))
abbrev tS : Ty := (.pair tY (.pair tY .unit))
abbrev tR : Ty := (.pair tI (.pair (.sl (.int .u32)) .unit))
abbrev dI := Bool × (List Int) × Unit
abbrev dY := dI × Int × Unit
abbrev dS := dY × dY × Unit
abbrev dR := dI × (List Int) × Unit
noncomputable def T : Nat → Option TRow := fun i => bif Nat.beq i 2 then some ⟨(.int .i64), .int .i64, 8⟩ else bif Nat.beq i 3 then some ⟨(.int .i64), .int .i64, 8⟩ else bif Nat.beq i 4 then some ⟨.bool, .bool, 1⟩ else bif Nat.beq i 5 then some ⟨(.int .u8), .int .u8, 1⟩ else bif Nat.beq i 9 then some ⟨.str, .str, 16⟩ else bif Nat.beq i 22 then some ⟨(.sl tR), .sl 39, 24⟩ else bif Nat.beq i 23 then some ⟨(.sl (.sl tR)), .sl 22, 24⟩ else bif Nat.beq i 25 then some ⟨(.pair (.sl tR) (.pair (.sl (.sl tR)) .unit)), .st [(0, 22), (1, 23)], 48⟩ else bif Nat.beq i 26 then some ⟨(.sl (.pair (.int .i64) (.pair (.int .i64) (.pair .str .unit)))), .sl 45, 24⟩ else bif Nat.beq i 27 then some ⟨(.int .i64), .int .i64, 8⟩ else bif Nat.beq i 29 then some ⟨(.pair (.int .i64) (.pair (.int .i64) .unit)), .st [(0, 27), (1, 3)], 16⟩ else bif Nat.beq i 35 then some ⟨(.sl (.int .u32)), .sl 83, 24⟩ else bif Nat.beq i 37 then some ⟨tI, .st [(0, 4), (1, 35)], 32⟩ else bif Nat.beq i 39 then some ⟨tR, .st [(0, 37), (2, 35)], 56⟩ else bif Nat.beq i 45 then some ⟨(.pair (.int .i64) (.pair (.int .i64) (.pair .str .unit))), .st [(0, 3), (1, 3), (2, 9)], 32⟩ else bif Nat.beq i 62 then some ⟨(.int .u64), .int .u64, 8⟩ else bif Nat.beq i 83 then some ⟨(.int .u32), .int .u32, 4⟩ else bif Nat.beq i 101 then some ⟨(.sl (.int .u8)), .sl 5, 24⟩ else bif Nat.beq i 110 then some ⟨(.sl (.int .i64)), .sl 27, 24⟩ else none
theorem row2 : RowOK Tryd.prog 2 ⟨(.int .i64), .int .i64, 8⟩ := RowOK.of (by kernel_rfl) (by kernel_rfl) Tryd.underlying2 (by kernel_rfl)
theorem row3 : RowOK Tryd.prog 3 ⟨(.int .i64), .int .i64, 8⟩ := RowOK.of (by kernel_rfl) (by kernel_rfl) Tryd.underlying3 (by kernel_rfl)
theorem row4 : RowOK Tryd.prog 4 ⟨.bool, .bool, 1⟩ := RowOK.of (by kernel_rfl) (by kernel_rfl) Tryd.underlying4 (by kernel_rfl)
theorem row5 : RowOK Tryd.prog 5 ⟨(.int .u8), .int .u8, 1⟩ := RowOK.of (by kernel_rfl) (by kernel_rfl) Tryd.underlying5 (by kernel_rfl)
theorem row9 : RowOK Tryd.prog 9 ⟨.str, .str, 16⟩ := RowOK.of (by kernel_rfl) (by kernel_rfl) Tryd.underlying9 (by kernel_rfl)
theorem row22 : RowOK Tryd.prog 22 ⟨(.sl tR), .sl 39, 24⟩ := RowOK.of (by kernel_rfl) (by kernel_rfl) Tryd.underlying22 (by kernel_rfl)
theorem row23 : RowOK Tryd.prog 23 ⟨(.sl (.sl tR)), .sl 22, 24⟩ := RowOK.of (by kernel_rfl) (by kernel_rfl) Tryd.underlying23 (by kernel_rfl)
theorem row25 : RowOK Tryd.prog 25 ⟨(.pair (.sl tR) (.pair (.sl (.sl tR)) .unit)), .st [(0, 22), (1, 23)], 48⟩ := RowOK.of (by kernel_rfl) (by kernel_rfl) ⟨_, Tryd.underlying25, by kernel_rfl⟩ (by kernel_rfl)
theorem row26 : RowOK Tryd.prog 26 ⟨(.sl (.pair (.int .i64) (.pair (.int .i64) (.pair .str .unit)))), .sl 45, 24⟩ := RowOK.of (by kernel_rfl) (by kernel_rfl) Tryd.underlying26 (by kernel_rfl)
theorem row27 : RowOK Tryd.prog 27 ⟨(.int .i64), .int .i64, 8⟩ := RowOK.of (by kernel_rfl) (by kernel_rfl) Tryd.underlying27 (by kernel_rfl)
theorem row29 : RowOK Tryd.prog 29 ⟨(.pair (.int .i64) (.pair (.int .i64) .unit)), .st [(0, 27), (1, 3)], 16⟩ := RowOK.of (by kernel_rfl) (by kernel_rfl) ⟨_, Tryd.underlying29, by kernel_rfl⟩ (by kernel_rfl)
theorem row35 : RowOK Tryd.prog 35 ⟨(.sl (.int .u32)), .sl 83, 24⟩ := RowOK.of (by kernel_rfl) (by kernel_rfl) Tryd.underlying35 (by kernel_rfl)
theorem row37 : RowOK Tryd.prog 37 ⟨tI, .st [(0, 4), (1, 35)], 32⟩ := RowOK.of (by kernel_rfl) (by kernel_rfl) ⟨_, Tryd.underlying37, by kernel_rfl⟩ (by kernel_rfl)
theorem row39 : RowOK Tryd.prog 39 ⟨tR, .st [(0, 37), (2, 35)], 56⟩ := RowOK.of (by kernel_rfl) (by kernel_rfl) ⟨_, Tryd.underlying39, by kernel_rfl⟩ (by kernel_rfl)
theorem row45 : RowOK Tryd.prog 45 ⟨(.pair (.int .i64) (.pair (.int .i64) (.pair .str .unit))), .st [(0, 3), (1, 3), (2, 9)], 32⟩ := RowOK.of (by kernel_rfl) (by kernel_rfl) ⟨_, Tryd.underlying45, by kernel_rfl⟩ (by kernel_rfl)
theorem row62 : RowOK Tryd.prog 62 ⟨(.int .u64), .int .u64, 8⟩ := RowOK.of (by kernel_rfl) (by kernel_rfl) Tryd.underlying62 (by kernel_rfl)
theorem row83 : RowOK Tryd.prog 83 ⟨(.int .u32), .int .u32, 4⟩ := RowOK.of (by kernel_rfl) (by kernel_rfl) Tryd.underlying83 (by kernel_rfl)
theorem row101 : RowOK Tryd.prog 101 ⟨(.sl (.int .u8)), .sl 5, 24⟩ := RowOK.of (by kernel_rfl) (by kernel_rfl) Tryd.underlying101 (by kernel_rfl)
theorem row110 : RowOK Tryd.prog 110 ⟨(.sl (.int .i64)), .sl 27, 24⟩ := RowOK.of (by kernel_rfl) (by kernel_rfl) Tryd.underlying110 (by kernel_rfl)
theorem T_ok : TypesOK Tryd.prog T := (types_cons row2 (types_cons row3 (types_cons row4 (types_cons row5 (types_cons row9 (types_cons row22 (types_cons row23 (types_cons row25 (types_cons row26 (types_cons row27 (types_cons row29 (types_cons row35 (types_cons row37 (types_cons row39 (types_cons row45 (types_cons row62 (types_cons row83 (types_cons row101 (types_cons row110 types_nil)))))))))))))))))))
theorem mixed : Tryd.prog.follows .mixedOrders = true := by kernel_rfl
noncomputable def Γ_lex_run : Env := { T := T, Φ := fun i => none, ann := fun i => bif Nat.beq i 1 then [(0, .c .sc), (1, .c .sc), (2, .c .sc)] else [], ord := fun i => [] }
noncomputable def lex_run_c : Code := (Tryd.f12.body).getD .skip
noncomputable def lex_run_fin := finish Γ_lex_run Tryd.f12.results.toList (.pair (.int .i64) .unit) []
noncomputable def lex_run_mk0 (s : ByteArray) (at_ : Int) (sort : ((Int × Unit) → Option (Bool × Unit))) : St := { t := (upd (upd (upd (fun _ => .undef) 0 (.one (.str s))) 1 (.one (.int .i64 at_))) 2 (.one (.fn (.pair (.int .u8) .unit) (.pair .bool .unit) sort))), m := (upd (fun _ => .free) 0 .held), nx := 1000000, n := 21 }
theorem lex_run_loop0 (K : Nat) : ∀ (n : Nat) (s : ByteArray) (at_ : Int) (sort : ((Int × Unit) → Option (Bool × Unit))), loopAt Γ_lex_run K [.r, .l, .b] lex_run_c [] lex_run_fin (fun _ _ => none) lex_run_fin n (lex_run_mk0 s at_ sort) = lex_run_l0 K n s at_ sort := by
  intro n
  induction n with
  | zero => intro s at_ sort; kernel_rfl
  | succ n ih =>
    intro s at_ sort
    have e : loopAt Γ_lex_run K [.r, .l, .b] lex_run_c [] lex_run_fin (fun _ _ => none) lex_run_fin (n + 1) (lex_run_mk0 s at_ sort) = lex_run_s0 (fun (s : ByteArray) (at_ : Int) (sort : ((Int × Unit) → Option (Bool × Unit))) => loopAt Γ_lex_run K [.r, .l, .b] lex_run_c [] lex_run_fin (fun _ _ => none) lex_run_fin n (lex_run_mk0 s at_ sort)) s at_ sort := by kernel_rfl
    rw [e]
    rw [show (fun (s : ByteArray) (at_ : Int) (sort : ((Int × Unit) → Option (Bool × Unit))) => loopAt Γ_lex_run K [.r, .l, .b] lex_run_c [] lex_run_fin (fun _ _ => none) lex_run_fin n (lex_run_mk0 s at_ sort)) = _ from funext fun s => funext fun at_ => funext fun sort => ih s at_ sort]
    rfl
theorem lex_run_eq (K : Nat) (s : ByteArray) (at_ : Int) (sort : ((Int × Unit) → Option (Bool × Unit))) : exF Γ_lex_run K Tryd.f12 (.pair .str (.pair (.int .i64) (.pair (.fn (.pair (.int .u8) .unit) (.pair .bool .unit)) .unit))) (.pair (.int .i64) .unit) [] (s, at_, sort, ()) = lex_run K s at_ sort := by
  have e : exF Γ_lex_run K Tryd.f12 (.pair .str (.pair (.int .i64) (.pair (.fn (.pair (.int .u8) .unit) (.pair .bool .unit)) .unit))) (.pair (.int .i64) .unit) [] (s, at_, sort, ()) = lex_run_b (fun (s : ByteArray) (at_ : Int) (sort : ((Int × Unit) → Option (Bool × Unit))) => loopAt Γ_lex_run K [.r, .l, .b] lex_run_c [] lex_run_fin (fun _ _ => none) lex_run_fin K (lex_run_mk0 s at_ sort)) s at_ sort := by kernel_rfl
  rw [e]
  rw [show (fun (s : ByteArray) (at_ : Int) (sort : ((Int × Unit) → Option (Bool × Unit))) => loopAt Γ_lex_run K [.r, .l, .b] lex_run_c [] lex_run_fin (fun _ _ => none) lex_run_fin K (lex_run_mk0 s at_ sort)) = _ from funext fun s => funext fun at_ => funext fun sort => lex_run_loop0 K K s at_ sort]
  rfl
theorem env_lex_run : EnvOK Tryd.prog G Γ_lex_run := ⟨T_ok, (phi_nil : PhiOK Tryd.prog G Γ_lex_run.Φ), fun _ _ h => (by cases h), mixed⟩
theorem fn_lex_run : FnOK Tryd.prog G 12 ⟨(.pair .str (.pair (.int .i64) (.pair (.fn (.pair (.int .u8) .unit) (.pair .bool .unit)) .unit))), (.pair (.int .i64) .unit), [], S.lex_run, none⟩ := FnOK.of env_lex_run Tryd.func12 (by kernel_rfl) (by kernel_rfl) (of_decide_eq_true (by kernel_rfl)) (fun x y h => ⟨20000, (lex_run_eq 20000 x.1 x.2.1 x.2.2.1).trans h⟩)

noncomputable def Γ_lex_Scan_1 : Env := { T := T, Φ := fun i => none, ann := fun i => [], ord := fun i => [] }
theorem lex_Scan_1_eq (K : Nat) (b : Int) : exF Γ_lex_Scan_1 K Tryd.f13 (.pair (.int .u8) .unit) (.pair .bool .unit) [] (b, ()) = lex_Scan_1 b := by kernel_rfl
theorem env_lex_Scan_1 : EnvOK Tryd.prog G Γ_lex_Scan_1 := ⟨T_ok, (phi_nil : PhiOK Tryd.prog G Γ_lex_Scan_1.Φ), fun _ _ h => (by cases h), mixed⟩
theorem fn_lex_Scan_1 : FnOK Tryd.prog G 13 ⟨(.pair (.int .u8) .unit), (.pair .bool .unit), [], S.lex_Scan_1, none⟩ := FnOK.of env_lex_Scan_1 Tryd.func13 (by kernel_rfl) (by kernel_rfl) (of_decide_eq_true (by kernel_rfl)) (fun x y h => ⟨0, (lex_Scan_1_eq 0 x.1).trans h⟩)

noncomputable def Γ_lex_letter : Env := { T := T, Φ := fun i => none, ann := fun i => [], ord := fun i => [] }
theorem lex_letter_eq (K : Nat) (b : Int) : exF Γ_lex_letter K Tryd.f14 (.pair (.int .u8) .unit) (.pair .bool .unit) [] (b, ()) = lex_letter b := by kernel_rfl
theorem env_lex_letter : EnvOK Tryd.prog G Γ_lex_letter := ⟨T_ok, (phi_nil : PhiOK Tryd.prog G Γ_lex_letter.Φ), fun _ _ h => (by cases h), mixed⟩
theorem fn_lex_letter : FnOK Tryd.prog G 14 ⟨(.pair (.int .u8) .unit), (.pair .bool .unit), [], S.lex_letter, none⟩ := FnOK.of env_lex_letter Tryd.func14 (by kernel_rfl) (by kernel_rfl) (of_decide_eq_true (by kernel_rfl)) (fun x y h => ⟨0, (lex_letter_eq 0 x.1).trans h⟩)

noncomputable def Γ_lex_digit : Env := { T := T, Φ := fun i => none, ann := fun i => [], ord := fun i => [] }
theorem lex_digit_eq (K : Nat) (b : Int) : exF Γ_lex_digit K Tryd.f15 (.pair (.int .u8) .unit) (.pair .bool .unit) [] (b, ()) = lex_digit b := by kernel_rfl
theorem env_lex_digit : EnvOK Tryd.prog G Γ_lex_digit := ⟨T_ok, (phi_nil : PhiOK Tryd.prog G Γ_lex_digit.Φ), fun _ _ h => (by cases h), mixed⟩
theorem fn_lex_digit : FnOK Tryd.prog G 15 ⟨(.pair (.int .u8) .unit), (.pair .bool .unit), [], S.lex_digit, none⟩ := FnOK.of env_lex_digit Tryd.func15 (by kernel_rfl) (by kernel_rfl) (of_decide_eq_true (by kernel_rfl)) (fun x y h => ⟨0, (lex_digit_eq 0 x.1).trans h⟩)

noncomputable def Γ_lex_number : Env := { T := T, Φ := fun i => bif Nat.beq i 12 then some ⟨(.pair .str (.pair (.int .i64) (.pair (.fn (.pair (.int .u8) .unit) (.pair .bool .unit)) .unit))), (.pair (.int .i64) .unit), [], S.lex_run, none⟩ else bif Nat.beq i 15 then some ⟨(.pair (.int .u8) .unit), (.pair .bool .unit), [], S.lex_digit, none⟩ else none, ann := fun i => [], ord := fun i => [] }
theorem lex_number_eq (K : Nat) (s : ByteArray) (at_ : Int) : exF Γ_lex_number K Tryd.f16 (.pair .str (.pair (.int .i64) .unit)) (.pair (.int .i64) .unit) [] (s, at_, ()) = lex_number s at_ := by kernel_rfl
theorem env_lex_number : EnvOK Tryd.prog G Γ_lex_number := ⟨T_ok, ((phi_cons fn_lex_run (phi_cons fn_lex_digit phi_nil)) : PhiOK Tryd.prog G Γ_lex_number.Φ), fun _ _ h => (by cases h), mixed⟩
theorem fn_lex_number : FnOK Tryd.prog G 16 ⟨(.pair .str (.pair (.int .i64) .unit)), (.pair (.int .i64) .unit), [], S.lex_number, none⟩ := FnOK.of env_lex_number Tryd.func16 (by kernel_rfl) (by kernel_rfl) (of_decide_eq_true (by kernel_rfl)) (fun x y h => ⟨0, (lex_number_eq 0 x.1 x.2.1).trans h⟩)

theorem fn_strings_Fields : FnOK Tryd.prog G 17 ⟨.unit, .unit, [], fun _ => none, none⟩ := FnOK.dead Tryd.func17 (by kernel_rfl) (by kernel_rfl)

noncomputable def Γ_lex_Scan : Env := { T := T, Φ := fun i => bif Nat.beq i 12 then some ⟨(.pair .str (.pair (.int .i64) (.pair (.fn (.pair (.int .u8) .unit) (.pair .bool .unit)) .unit))), (.pair (.int .i64) .unit), [], S.lex_run, none⟩ else bif Nat.beq i 13 then some ⟨(.pair (.int .u8) .unit), (.pair .bool .unit), [], S.lex_Scan_1, none⟩ else bif Nat.beq i 14 then some ⟨(.pair (.int .u8) .unit), (.pair .bool .unit), [], S.lex_letter, none⟩ else bif Nat.beq i 15 then some ⟨(.pair (.int .u8) .unit), (.pair .bool .unit), [], S.lex_digit, none⟩ else bif Nat.beq i 16 then some ⟨(.pair .str (.pair (.int .i64) .unit)), (.pair (.int .i64) .unit), [], S.lex_number, none⟩ else bif Nat.beq i 17 then some ⟨.unit, .unit, [], (fun _ => none), none⟩ else none, ann := fun i => bif Nat.beq i 5 then [(0, .c .sc), (3, .var 100 [.sc, .sc]), (4, .c (.own 101 45 (.pair (.int .i64) (.pair (.int .i64) (.pair .str .unit))))), (5, .c .sc)] else [], ord := fun i => [] }
noncomputable def lex_Scan_c : Code := (Tryd.f4.body).getD .skip
noncomputable def lex_Scan_fin := finish Γ_lex_Scan Tryd.f4.results.toList (.pair (.sl (.pair (.int .i64) (.pair (.int .i64) (.pair .str .unit)))) (.pair (.pair (.int .i64) (.pair (.int .i64) .unit)) .unit)) []
noncomputable def lex_Scan_mk0 (s : ByteArray) (t3_0 : Int) (t3_1 : Int) (out : List (Int × Int × ByteArray × Unit)) (at_ : Int) : St := { t := (upd (upd (upd (upd (fun _ => .undef) 0 (.one (.str s))) 3 (.one (.vptr 100 0))) 4 (.one (.own 101))) 5 (.one (.int .i64 at_))), m := (upd (upd (upd (fun _ => .free) 0 .held) 100 (.var true [.int .i64 t3_0, .int .i64 t3_1])) 101 (.row true 45 (.pair (.int .i64) (.pair (.int .i64) (.pair .str .unit))) out)), nx := 1000000, n := 113 }
theorem lex_Scan_loop0 (K : Nat) : ∀ (n : Nat) (s : ByteArray) (t3_0 : Int) (t3_1 : Int) (out : List (Int × Int × ByteArray × Unit)) (at_ : Int), loopAt Γ_lex_Scan K [.r, .r, .r, .l, .r, .b] lex_Scan_c [] lex_Scan_fin (fun _ _ => none) lex_Scan_fin n (lex_Scan_mk0 s t3_0 t3_1 out at_) = lex_Scan_l0 K n s t3_0 t3_1 out at_ := by
  intro n
  induction n with
  | zero => intro s t3_0 t3_1 out at_; kernel_rfl
  | succ n ih =>
    intro s t3_0 t3_1 out at_
    have e : loopAt Γ_lex_Scan K [.r, .r, .r, .l, .r, .b] lex_Scan_c [] lex_Scan_fin (fun _ _ => none) lex_Scan_fin (n + 1) (lex_Scan_mk0 s t3_0 t3_1 out at_) = lex_Scan_s0 (fun (s : ByteArray) (t3_0 : Int) (t3_1 : Int) (out : List (Int × Int × ByteArray × Unit)) (at_ : Int) => loopAt Γ_lex_Scan K [.r, .r, .r, .l, .r, .b] lex_Scan_c [] lex_Scan_fin (fun _ _ => none) lex_Scan_fin n (lex_Scan_mk0 s t3_0 t3_1 out at_)) s t3_0 t3_1 out at_ := by kernel_rfl
    rw [e]
    rw [show (fun (s : ByteArray) (t3_0 : Int) (t3_1 : Int) (out : List (Int × Int × ByteArray × Unit)) (at_ : Int) => loopAt Γ_lex_Scan K [.r, .r, .r, .l, .r, .b] lex_Scan_c [] lex_Scan_fin (fun _ _ => none) lex_Scan_fin n (lex_Scan_mk0 s t3_0 t3_1 out at_)) = _ from funext fun s => funext fun t3_0 => funext fun t3_1 => funext fun out => funext fun at_ => ih s t3_0 t3_1 out at_]
    rfl
theorem lex_Scan_eq (K : Nat) (s : ByteArray) : exF Γ_lex_Scan K Tryd.f4 (.pair .str .unit) (.pair (.sl (.pair (.int .i64) (.pair (.int .i64) (.pair .str .unit)))) (.pair (.pair (.int .i64) (.pair (.int .i64) .unit)) .unit)) [] (s, ()) = lex_Scan K s := by
  have e : exF Γ_lex_Scan K Tryd.f4 (.pair .str .unit) (.pair (.sl (.pair (.int .i64) (.pair (.int .i64) (.pair .str .unit)))) (.pair (.pair (.int .i64) (.pair (.int .i64) .unit)) .unit)) [] (s, ()) = lex_Scan_b (fun (s : ByteArray) (t3_0 : Int) (t3_1 : Int) (out : List (Int × Int × ByteArray × Unit)) (at_ : Int) => loopAt Γ_lex_Scan K [.r, .r, .r, .l, .r, .b] lex_Scan_c [] lex_Scan_fin (fun _ _ => none) lex_Scan_fin K (lex_Scan_mk0 s t3_0 t3_1 out at_)) s := by kernel_rfl
  rw [e]
  rw [show (fun (s : ByteArray) (t3_0 : Int) (t3_1 : Int) (out : List (Int × Int × ByteArray × Unit)) (at_ : Int) => loopAt Γ_lex_Scan K [.r, .r, .r, .l, .r, .b] lex_Scan_c [] lex_Scan_fin (fun _ _ => none) lex_Scan_fin K (lex_Scan_mk0 s t3_0 t3_1 out at_)) = _ from funext fun s => funext fun t3_0 => funext fun t3_1 => funext fun out => funext fun at_ => lex_Scan_loop0 K K s t3_0 t3_1 out at_]
  rfl
theorem env_lex_Scan : EnvOK Tryd.prog G Γ_lex_Scan := ⟨T_ok, ((phi_cons fn_lex_run (phi_cons fn_lex_Scan_1 (phi_cons fn_lex_letter (phi_cons fn_lex_digit (phi_cons fn_lex_number (phi_cons fn_strings_Fields phi_nil)))))) : PhiOK Tryd.prog G Γ_lex_Scan.Φ), fun _ _ h => (by cases h), mixed⟩
theorem fn_lex_Scan : FnOK Tryd.prog G 4 ⟨(.pair .str .unit), (.pair (.sl (.pair (.int .i64) (.pair (.int .i64) (.pair .str .unit)))) (.pair (.pair (.int .i64) (.pair (.int .i64) .unit)) .unit)), [], S.lex_Scan, none⟩ := FnOK.of env_lex_Scan Tryd.func4 (by kernel_rfl) (by kernel_rfl) (of_decide_eq_true (by kernel_rfl)) (fun x y h => ⟨100, (lex_Scan_eq 100 x.1).trans h⟩)

noncomputable def Γ_limbs_trim : Env := { T := T, Φ := fun i => none, ann := fun i => bif Nat.beq i 2 then [(0, .c (.data (.int .u32))), (3, .c .sc)] else [], ord := fun i => [] }
noncomputable def limbs_trim_c : Code := (Tryd.f47.body).getD .skip
noncomputable def limbs_trim_fin := finish Γ_limbs_trim Tryd.f47.results.toList (.pair (.sl (.int .u32)) .unit) []
noncomputable def limbs_trim_mk0 (a : List Int) (n2 : Int) : St := { t := (upd (upd (fun _ => .undef) 0 (.one (.sl (.int .u32) a))) 3 (.one (.int .i64 n2))), m := (upd (fun _ => .free) 0 .held), nx := 1000000, n := 22 }
theorem limbs_trim_loop0 (K : Nat) : ∀ (n : Nat) (a : List Int) (n2 : Int), loopAt Γ_limbs_trim K [.r, .r, .l, .b] limbs_trim_c [] limbs_trim_fin (fun _ _ => none) limbs_trim_fin n (limbs_trim_mk0 a n2) = limbs_trim_l0 K n a n2 := by
  intro n
  induction n with
  | zero => intro a n2; kernel_rfl
  | succ n ih =>
    intro a n2
    have e : loopAt Γ_limbs_trim K [.r, .r, .l, .b] limbs_trim_c [] limbs_trim_fin (fun _ _ => none) limbs_trim_fin (n + 1) (limbs_trim_mk0 a n2) = limbs_trim_s0 (fun (a : List Int) (n2 : Int) => loopAt Γ_limbs_trim K [.r, .r, .l, .b] limbs_trim_c [] limbs_trim_fin (fun _ _ => none) limbs_trim_fin n (limbs_trim_mk0 a n2)) a n2 := by kernel_rfl
    rw [e]
    rw [show (fun (a : List Int) (n2 : Int) => loopAt Γ_limbs_trim K [.r, .r, .l, .b] limbs_trim_c [] limbs_trim_fin (fun _ _ => none) limbs_trim_fin n (limbs_trim_mk0 a n2)) = _ from funext fun a => funext fun n2 => ih a n2]
    rfl
theorem limbs_trim_eq (K : Nat) (a : List Int) : exF Γ_limbs_trim K Tryd.f47 (.pair (.sl (.int .u32)) .unit) (.pair (.sl (.int .u32)) .unit) [] (a, ()) = limbs_trim K a := by
  have e : exF Γ_limbs_trim K Tryd.f47 (.pair (.sl (.int .u32)) .unit) (.pair (.sl (.int .u32)) .unit) [] (a, ()) = limbs_trim_b (fun (a : List Int) (n2 : Int) => loopAt Γ_limbs_trim K [.r, .r, .l, .b] limbs_trim_c [] limbs_trim_fin (fun _ _ => none) limbs_trim_fin K (limbs_trim_mk0 a n2)) a := by kernel_rfl
  rw [e]
  rw [show (fun (a : List Int) (n2 : Int) => loopAt Γ_limbs_trim K [.r, .r, .l, .b] limbs_trim_c [] limbs_trim_fin (fun _ _ => none) limbs_trim_fin K (limbs_trim_mk0 a n2)) = _ from funext fun a => funext fun n2 => limbs_trim_loop0 K K a n2]
  rfl
theorem env_limbs_trim : EnvOK Tryd.prog G Γ_limbs_trim := ⟨T_ok, (phi_nil : PhiOK Tryd.prog G Γ_limbs_trim.Φ), fun _ _ h => (by cases h), mixed⟩
theorem fn_limbs_trim : FnOK Tryd.prog G 47 ⟨(.pair (.sl (.int .u32)) .unit), (.pair (.sl (.int .u32)) .unit), [], S.limbs_trim, none⟩ := FnOK.of env_limbs_trim Tryd.func47 (by kernel_rfl) (by kernel_rfl) (of_decide_eq_true (by kernel_rfl)) (fun x y h => by obtain ⟨K, hK⟩ := limbs_trim_ok x y h; exact ⟨K, (limbs_trim_eq K x.1).trans hK⟩)

noncomputable def Γ_limbs_Of : Env := { T := T, Φ := fun i => bif Nat.beq i 47 then some ⟨(.pair (.sl (.int .u32)) .unit), (.pair (.sl (.int .u32)) .unit), [], S.limbs_trim, none⟩ else none, ann := fun i => [], ord := fun i => [] }
theorem limbs_Of_eq (K : Nat) (n : Int) : exF Γ_limbs_Of K Tryd.f24 (.pair (.int .u64) .unit) (.pair (.sl (.int .u32)) .unit) [] (n, ()) = limbs_Of n := by kernel_rfl
theorem env_limbs_Of : EnvOK Tryd.prog G Γ_limbs_Of := ⟨T_ok, ((phi_cons fn_limbs_trim phi_nil) : PhiOK Tryd.prog G Γ_limbs_Of.Φ), fun _ _ h => (by cases h), mixed⟩
theorem fn_limbs_Of : FnOK Tryd.prog G 24 ⟨(.pair (.int .u64) .unit), (.pair (.sl (.int .u32)) .unit), [], S.limbs_Of, none⟩ := FnOK.of env_limbs_Of Tryd.func24 (by kernel_rfl) (by kernel_rfl) (of_decide_eq_true (by kernel_rfl)) (fun x y h => ⟨0, (limbs_Of_eq 0 x.1).trans h⟩)

noncomputable def Γ_ratio_Zero : Env := { T := T, Φ := fun i => bif Nat.beq i 24 then some ⟨(.pair (.int .u64) .unit), (.pair (.sl (.int .u32)) .unit), [], S.limbs_Of, none⟩ else none, ann := fun i => [], ord := fun i => [] }
theorem ratio_Zero_eq (K : Nat)  : exF Γ_ratio_Zero K Tryd.f19 .unit (.pair tR .unit) [] (()) = ratio_Zero := by kernel_rfl
theorem env_ratio_Zero : EnvOK Tryd.prog G Γ_ratio_Zero := ⟨T_ok, ((phi_cons fn_limbs_Of phi_nil) : PhiOK Tryd.prog G Γ_ratio_Zero.Φ), fun _ _ h => (by cases h), mixed⟩
theorem fn_ratio_Zero : FnOK Tryd.prog G 19 ⟨.unit, (.pair tR .unit), [], S.ratio_Zero, none⟩ := FnOK.of env_ratio_Zero Tryd.func19 (by kernel_rfl) (by kernel_rfl) (of_decide_eq_true (by kernel_rfl)) (fun x y h => ⟨0, (ratio_Zero_eq 0 ).trans h⟩)

noncomputable def Γ_vec_Zero : Env := { T := T, Φ := fun i => bif Nat.beq i 19 then some ⟨.unit, (.pair tR .unit), [], S.ratio_Zero, none⟩ else none, ann := fun i => bif Nat.beq i 3 then [(3, .c (.own 100 39 tR)), (10, .c .sc), (11, .c .sc)] else [], ord := fun i => [] }
noncomputable def vec_Zero_c : Code := (Tryd.f5.body).getD .skip
noncomputable def vec_Zero_fin := finish Γ_vec_Zero Tryd.f5.results.toList (.pair (.sl tR) .unit) [some 39]
noncomputable def vec_Zero_mk0 (out : List dR) (t10 : Int) (t11 : Int) : St := { t := (upd (upd (upd (fun _ => .undef) 3 (.one (.own 100))) 10 (.one (.int .i64 t10))) 11 (.one (.int .i64 t11))), m := (upd (upd (fun _ => .free) 0 .held) 100 (.row true 39 tR out)), nx := 1000000, n := 20 }
theorem vec_Zero_loop0 (K : Nat) : ∀ (n : Nat) (out : List dR) (t10 : Int) (t11 : Int), loopAt Γ_vec_Zero K [.r, .r, .l, .r, .b] vec_Zero_c [] vec_Zero_fin (fun _ _ => none) vec_Zero_fin n (vec_Zero_mk0 out t10 t11) = vec_Zero_l0 K n out t10 t11 := by
  intro n
  induction n with
  | zero => intro out t10 t11; kernel_rfl
  | succ n ih =>
    intro out t10 t11
    have e : loopAt Γ_vec_Zero K [.r, .r, .l, .r, .b] vec_Zero_c [] vec_Zero_fin (fun _ _ => none) vec_Zero_fin (n + 1) (vec_Zero_mk0 out t10 t11) = vec_Zero_s0 (fun (out : List dR) (t10 : Int) (t11 : Int) => loopAt Γ_vec_Zero K [.r, .r, .l, .r, .b] vec_Zero_c [] vec_Zero_fin (fun _ _ => none) vec_Zero_fin n (vec_Zero_mk0 out t10 t11)) out t10 t11 := by kernel_rfl
    rw [e]
    rw [show (fun (out : List dR) (t10 : Int) (t11 : Int) => loopAt Γ_vec_Zero K [.r, .r, .l, .r, .b] vec_Zero_c [] vec_Zero_fin (fun _ _ => none) vec_Zero_fin n (vec_Zero_mk0 out t10 t11)) = _ from funext fun out => funext fun t10 => funext fun t11 => ih out t10 t11]
    rfl
theorem vec_Zero_eq (K : Nat) (n : Int) : exF Γ_vec_Zero K Tryd.f5 (.pair (.int .i64) .unit) (.pair (.sl tR) .unit) [some 39] (n, ()) = vec_Zero K n := by
  have e : exF Γ_vec_Zero K Tryd.f5 (.pair (.int .i64) .unit) (.pair (.sl tR) .unit) [some 39] (n, ()) = vec_Zero_b (fun (out : List dR) (t10 : Int) (t11 : Int) => loopAt Γ_vec_Zero K [.r, .r, .l, .r, .b] vec_Zero_c [] vec_Zero_fin (fun _ _ => none) vec_Zero_fin K (vec_Zero_mk0 out t10 t11)) n := by kernel_rfl
  rw [e]
  rw [show (fun (out : List dR) (t10 : Int) (t11 : Int) => loopAt Γ_vec_Zero K [.r, .r, .l, .r, .b] vec_Zero_c [] vec_Zero_fin (fun _ _ => none) vec_Zero_fin K (vec_Zero_mk0 out t10 t11)) = _ from funext fun out => funext fun t10 => funext fun t11 => vec_Zero_loop0 K K out t10 t11]
  rfl
theorem env_vec_Zero : EnvOK Tryd.prog G Γ_vec_Zero := ⟨T_ok, ((phi_cons fn_ratio_Zero phi_nil) : PhiOK Tryd.prog G Γ_vec_Zero.Φ), fun _ _ h => (by cases h), mixed⟩
theorem fn_vec_Zero : FnOK Tryd.prog G 5 ⟨(.pair (.int .i64) .unit), (.pair (.sl tR) .unit), [some 39], S.vec_Zero, none⟩ := FnOK.of env_vec_Zero Tryd.func5 (by kernel_rfl) (by kernel_rfl) (of_decide_eq_true (by kernel_rfl)) (fun x y h => ⟨100, (vec_Zero_eq 100 x.1).trans h⟩)

noncomputable def Γ_limbs_Check : Env := { T := T, Φ := fun i => none, ann := fun i => [], ord := fun i => [] }
theorem limbs_Check_eq (K : Nat) (a : List Int) : exF Γ_limbs_Check K Tryd.f21 (.pair (.sl (.int .u32)) .unit) (.pair (.int .i64) .unit) [] (a, ()) = limbs_Check a := by kernel_rfl
theorem env_limbs_Check : EnvOK Tryd.prog G Γ_limbs_Check := ⟨T_ok, (phi_nil : PhiOK Tryd.prog G Γ_limbs_Check.Φ), fun _ _ h => (by cases h), mixed⟩
theorem fn_limbs_Check : FnOK Tryd.prog G 21 ⟨(.pair (.sl (.int .u32)) .unit), (.pair (.int .i64) .unit), [], S.limbs_Check, none⟩ := FnOK.of env_limbs_Check Tryd.func21 (by kernel_rfl) (by kernel_rfl) (of_decide_eq_true (by kernel_rfl)) (fun x y h => ⟨0, (limbs_Check_eq 0 x.1).trans h⟩)

noncomputable def Γ_whole_Check : Env := { T := T, Φ := fun i => bif Nat.beq i 21 then some ⟨(.pair (.sl (.int .u32)) .unit), (.pair (.int .i64) .unit), [], S.limbs_Check, none⟩ else none, ann := fun i => [], ord := fun i => [] }
theorem whole_Check_eq (K : Nat) (a : Bool × (List Int) × Unit) : exF Γ_whole_Check K Tryd.f20 (.pair tI .unit) (.pair (.int .i64) .unit) [] (a, ()) = whole_Check a := by kernel_rfl
theorem env_whole_Check : EnvOK Tryd.prog G Γ_whole_Check := ⟨T_ok, ((phi_cons fn_limbs_Check phi_nil) : PhiOK Tryd.prog G Γ_whole_Check.Φ), fun _ _ h => (by cases h), mixed⟩
theorem fn_whole_Check : FnOK Tryd.prog G 20 ⟨(.pair tI .unit), (.pair (.int .i64) .unit), [], S.whole_Check, none⟩ := FnOK.of env_whole_Check Tryd.func20 (by kernel_rfl) (by kernel_rfl) (of_decide_eq_true (by kernel_rfl)) (fun x y h => ⟨0, (whole_Check_eq 0 x.1).trans h⟩)

theorem fn_limbs_short : FnOK Tryd.prog G 68 ⟨(.pair (.sl (.int .u32)) (.pair (.int .u32) .unit)), (.pair (.sl (.int .u32)) (.pair (.int .u32) .unit)), [], S.limbs_short, none⟩ := fn_limbs_short_of fn_limbs_trim

noncomputable def Γ_bits_Len32 : Env := { T := T, Φ := fun i => none, ann := fun i => [], ord := fun i => [] }
theorem bits_Len32_eq (K : Nat) (x : Int) : exF Γ_bits_Len32 K Tryd.f95 (.pair (.int .u32) .unit) (.pair (.int .i64) .unit) [] (x, ()) = bits_Len32 x := by kernel_rfl
theorem env_bits_Len32 : EnvOK Tryd.prog G Γ_bits_Len32 := ⟨T_ok, (phi_nil : PhiOK Tryd.prog G Γ_bits_Len32.Φ), fun _ _ h => (by cases h), mixed⟩
theorem fn_bits_Len32 : FnOK Tryd.prog G 95 ⟨(.pair (.int .u32) .unit), (.pair (.int .i64) .unit), [], S.bits_Len32, none⟩ := FnOK.of env_bits_Len32 Tryd.func95 (by kernel_rfl) (by kernel_rfl) (of_decide_eq_true (by kernel_rfl)) (fun x y h => ⟨0, (bits_Len32_eq 0 x.1).trans h⟩)

noncomputable def Γ_bits_LeadingZeros32 : Env := { T := T, Φ := fun i => bif Nat.beq i 95 then some ⟨(.pair (.int .u32) .unit), (.pair (.int .i64) .unit), [], S.bits_Len32, none⟩ else none, ann := fun i => [], ord := fun i => [] }
theorem bits_LeadingZeros32_eq (K : Nat) (x : Int) : exF Γ_bits_LeadingZeros32 K Tryd.f81 (.pair (.int .u32) .unit) (.pair (.int .i64) .unit) [] (x, ()) = bits_LeadingZeros32 x := by kernel_rfl
theorem env_bits_LeadingZeros32 : EnvOK Tryd.prog G Γ_bits_LeadingZeros32 := ⟨T_ok, ((phi_cons fn_bits_Len32 phi_nil) : PhiOK Tryd.prog G Γ_bits_LeadingZeros32.Φ), fun _ _ h => (by cases h), mixed⟩
theorem fn_bits_LeadingZeros32 : FnOK Tryd.prog G 81 ⟨(.pair (.int .u32) .unit), (.pair (.int .i64) .unit), [], S.bits_LeadingZeros32, none⟩ := FnOK.of env_bits_LeadingZeros32 Tryd.func81 (by kernel_rfl) (by kernel_rfl) (of_decide_eq_true (by kernel_rfl)) (fun x y h => ⟨0, (bits_LeadingZeros32_eq 0 x.1).trans h⟩)

noncomputable def Γ_limbs_moved : Env := { T := T, Φ := fun i => none, ann := fun i => bif Nat.beq i 3 then [(1, .c .sc), (5, .c (.own 100 83 (.int .u32))), (13, .c (.data (.int .u32))), (14, .c .sc), (15, .c .sc)] else [], ord := fun i => [] }
noncomputable def limbs_moved_c : Code := (Tryd.f82.body).getD .skip
noncomputable def limbs_moved_fin := finish Γ_limbs_moved Tryd.f82.results.toList (.pair (.sl (.int .u32)) .unit) [some 83]
noncomputable def limbs_moved_mk0 (shift : Int) (out : List Int) (t13 : List Int) (t14 : Int) (t15 : Int) : St := { t := (upd (upd (upd (upd (upd (fun _ => .undef) 1 (.one (.int .i64 shift))) 5 (.one (.own 100))) 13 (.one (.sl (.int .u32) t13))) 14 (.one (.int .i64 t14))) 15 (.one (.int .i64 t15))), m := (upd (upd (fun _ => .free) 0 .held) 100 (.row true 83 (.int .u32) out)), nx := 1000000, n := 41 }
theorem limbs_moved_loop0 (K : Nat) : ∀ (n : Nat) (shift : Int) (out : List Int) (t13 : List Int) (t14 : Int) (t15 : Int), loopAt Γ_limbs_moved K [.r, .r, .l, .r, .b] limbs_moved_c [] limbs_moved_fin (fun _ _ => none) limbs_moved_fin n (limbs_moved_mk0 shift out t13 t14 t15) = limbs_moved_l0 K n shift out t13 t14 t15 := by
  intro n
  induction n with
  | zero => intro shift out t13 t14 t15; kernel_rfl
  | succ n ih =>
    intro shift out t13 t14 t15
    have e : loopAt Γ_limbs_moved K [.r, .r, .l, .r, .b] limbs_moved_c [] limbs_moved_fin (fun _ _ => none) limbs_moved_fin (n + 1) (limbs_moved_mk0 shift out t13 t14 t15) = limbs_moved_s0 (fun (shift : Int) (out : List Int) (t13 : List Int) (t14 : Int) (t15 : Int) => loopAt Γ_limbs_moved K [.r, .r, .l, .r, .b] limbs_moved_c [] limbs_moved_fin (fun _ _ => none) limbs_moved_fin n (limbs_moved_mk0 shift out t13 t14 t15)) shift out t13 t14 t15 := by kernel_rfl
    rw [e]
    rw [show (fun (shift : Int) (out : List Int) (t13 : List Int) (t14 : Int) (t15 : Int) => loopAt Γ_limbs_moved K [.r, .r, .l, .r, .b] limbs_moved_c [] limbs_moved_fin (fun _ _ => none) limbs_moved_fin n (limbs_moved_mk0 shift out t13 t14 t15)) = _ from funext fun shift => funext fun out => funext fun t13 => funext fun t14 => funext fun t15 => ih shift out t13 t14 t15]
    rfl
theorem limbs_moved_eq (K : Nat) (a : List Int) (shift : Int) : exF Γ_limbs_moved K Tryd.f82 (.pair (.sl (.int .u32)) (.pair (.int .i64) .unit)) (.pair (.sl (.int .u32)) .unit) [some 83] (a, shift, ()) = limbs_moved K a shift := by
  have e : exF Γ_limbs_moved K Tryd.f82 (.pair (.sl (.int .u32)) (.pair (.int .i64) .unit)) (.pair (.sl (.int .u32)) .unit) [some 83] (a, shift, ()) = limbs_moved_b (fun (shift : Int) (out : List Int) (t13 : List Int) (t14 : Int) (t15 : Int) => loopAt Γ_limbs_moved K [.r, .r, .l, .r, .b] limbs_moved_c [] limbs_moved_fin (fun _ _ => none) limbs_moved_fin K (limbs_moved_mk0 shift out t13 t14 t15)) a shift := by kernel_rfl
  rw [e]
  rw [show (fun (shift : Int) (out : List Int) (t13 : List Int) (t14 : Int) (t15 : Int) => loopAt Γ_limbs_moved K [.r, .r, .l, .r, .b] limbs_moved_c [] limbs_moved_fin (fun _ _ => none) limbs_moved_fin K (limbs_moved_mk0 shift out t13 t14 t15)) = _ from funext fun shift => funext fun out => funext fun t13 => funext fun t14 => funext fun t15 => limbs_moved_loop0 K K shift out t13 t14 t15]
  rfl
theorem env_limbs_moved : EnvOK Tryd.prog G Γ_limbs_moved := ⟨T_ok, (phi_nil : PhiOK Tryd.prog G Γ_limbs_moved.Φ), fun _ _ h => (by cases h), mixed⟩
theorem fn_limbs_moved : FnOK Tryd.prog G 82 ⟨(.pair (.sl (.int .u32)) (.pair (.int .i64) .unit)), (.pair (.sl (.int .u32)) .unit), [some 83], S.limbs_moved, none⟩ := FnOK.of env_limbs_moved Tryd.func82 (by kernel_rfl) (by kernel_rfl) (of_decide_eq_true (by kernel_rfl)) (fun x y h => by obtain ⟨K, hK⟩ := limbs_moved_ok x y h; exact ⟨K, (limbs_moved_eq K x.1 x.2.1).trans hK⟩)

noncomputable def Γ_limbs_less : Env := { T := T, Φ := fun i => none, ann := fun i => bif Nat.beq i 3 then [(0, .c .win), (1, .c (.data (.int .u32))), (2, .c .sc), (7, .c .sc), (8, .c .sc), (13, .c (.data (.int .u32))), (14, .c .sc), (15, .c .sc)] else [], ord := fun i => [] }
noncomputable def limbs_less_c : Code := (Tryd.f83.body).getD .skip
noncomputable def limbs_less_fin := finishW Γ_limbs_less 83 Tryd.f83.results.toList (.pair (.sl (.int .u32)) (.pair .bool .unit)) []
noncomputable def limbs_less_mk0 (u : List Int) (off : Nat) (len : Nat) (v : List Int) (digit : Int) (carry : Int) (owed : Int) (t13 : List Int) (t14 : Int) (t15 : Int) : St := { t := (upd (upd (upd (upd (upd (upd (upd (upd (fun _ => .undef) 0 (.one (.sub 0 off len))) 1 (.one (.sl (.int .u32) v))) 2 (.one (.int .u64 digit))) 7 (.one (.int .u64 carry))) 8 (.one (.int .u64 owed))) 13 (.one (.sl (.int .u32) t13))) 14 (.one (.int .i64 t14))) 15 (.one (.int .i64 t15))), m := (upd (upd (fun _ => .free) 0 .held) 0 (.row true 83 (.int .u32) u)), nx := 1000000, n := 66 }
theorem limbs_less_loop0 (K : Nat) : ∀ (n : Nat) (u : List Int) (off : Nat) (len : Nat) (v : List Int) (digit : Int) (carry : Int) (owed : Int) (t13 : List Int) (t14 : Int) (t15 : Int), loopAt Γ_limbs_less K [.r, .r, .l, .r, .b] limbs_less_c [] limbs_less_fin (fun _ _ => none) limbs_less_fin n (limbs_less_mk0 u off len v digit carry owed t13 t14 t15) = limbs_less_l0 K n u off len v digit carry owed t13 t14 t15 := by
  intro n
  induction n with
  | zero => intro u off len v digit carry owed t13 t14 t15; kernel_rfl
  | succ n ih =>
    intro u off len v digit carry owed t13 t14 t15
    have e : loopAt Γ_limbs_less K [.r, .r, .l, .r, .b] limbs_less_c [] limbs_less_fin (fun _ _ => none) limbs_less_fin (n + 1) (limbs_less_mk0 u off len v digit carry owed t13 t14 t15) = limbs_less_s0 (fun (u : List Int) (off : Nat) (len : Nat) (v : List Int) (digit : Int) (carry : Int) (owed : Int) (t13 : List Int) (t14 : Int) (t15 : Int) => loopAt Γ_limbs_less K [.r, .r, .l, .r, .b] limbs_less_c [] limbs_less_fin (fun _ _ => none) limbs_less_fin n (limbs_less_mk0 u off len v digit carry owed t13 t14 t15)) u off len v digit carry owed t13 t14 t15 := by kernel_rfl
    rw [e]
    rw [show (fun (u : List Int) (off : Nat) (len : Nat) (v : List Int) (digit : Int) (carry : Int) (owed : Int) (t13 : List Int) (t14 : Int) (t15 : Int) => loopAt Γ_limbs_less K [.r, .r, .l, .r, .b] limbs_less_c [] limbs_less_fin (fun _ _ => none) limbs_less_fin n (limbs_less_mk0 u off len v digit carry owed t13 t14 t15)) = _ from funext fun u => funext fun off => funext fun len => funext fun v => funext fun digit => funext fun carry => funext fun owed => funext fun t13 => funext fun t14 => funext fun t15 => ih u off len v digit carry owed t13 t14 t15]
    rfl
theorem limbs_less_eq (K : Nat) (u : List Int) (off : Int) (len : Int) (v : List Int) (digit : Int) : exW Γ_limbs_less K Tryd.f83 83 (.pair (.sl (.int .u32)) (.pair (.int .i64) (.pair (.int .i64) (.pair (.sl (.int .u32)) (.pair (.int .u64) .unit))))) (.pair (.sl (.int .u32)) (.pair .bool .unit)) [] (u, off, len, v, digit, ()) = limbs_less K u off len v digit := by
  have e : exW Γ_limbs_less K Tryd.f83 83 (.pair (.sl (.int .u32)) (.pair (.int .i64) (.pair (.int .i64) (.pair (.sl (.int .u32)) (.pair (.int .u64) .unit))))) (.pair (.sl (.int .u32)) (.pair .bool .unit)) [] (u, off, len, v, digit, ()) = limbs_less_b (fun (u : List Int) (off : Nat) (len : Nat) (v : List Int) (digit : Int) (carry : Int) (owed : Int) (t13 : List Int) (t14 : Int) (t15 : Int) => loopAt Γ_limbs_less K [.r, .r, .l, .r, .b] limbs_less_c [] limbs_less_fin (fun _ _ => none) limbs_less_fin K (limbs_less_mk0 u off len v digit carry owed t13 t14 t15)) u off len v digit := by kernel_rfl
  rw [e]
  rw [show (fun (u : List Int) (off : Nat) (len : Nat) (v : List Int) (digit : Int) (carry : Int) (owed : Int) (t13 : List Int) (t14 : Int) (t15 : Int) => loopAt Γ_limbs_less K [.r, .r, .l, .r, .b] limbs_less_c [] limbs_less_fin (fun _ _ => none) limbs_less_fin K (limbs_less_mk0 u off len v digit carry owed t13 t14 t15)) = _ from funext fun u => funext fun off => funext fun len => funext fun v => funext fun digit => funext fun carry => funext fun owed => funext fun t13 => funext fun t14 => funext fun t15 => limbs_less_loop0 K K u off len v digit carry owed t13 t14 t15]
  rfl
theorem env_limbs_less : EnvOK Tryd.prog G Γ_limbs_less := ⟨T_ok, (phi_nil : PhiOK Tryd.prog G Γ_limbs_less.Φ), fun _ _ h => (by cases h), mixed⟩
theorem fn_limbs_less : FnOK Tryd.prog G 83 ⟨(.pair (.sl (.int .u32)) (.pair (.int .i64) (.pair (.int .i64) (.pair (.sl (.int .u32)) (.pair (.int .u64) .unit))))), (.pair (.sl (.int .u32)) (.pair .bool .unit)), [], S.limbs_less, some 83⟩ := FnOK.ofW env_limbs_less Tryd.func83 (by kernel_rfl) (by kernel_rfl) (of_decide_eq_true (by kernel_rfl)) limbs_less_len (fun x y h => by obtain ⟨K, hK⟩ := limbs_less_ok x y h; exact ⟨K, (limbs_less_eq K x.1 x.2.1 x.2.2.1 x.2.2.2.1 x.2.2.2.2.1).trans hK⟩)

noncomputable def Γ_limbs_back : Env := { T := T, Φ := fun i => none, ann := fun i => bif Nat.beq i 2 then [(0, .c .win), (1, .c (.data (.int .u32))), (4, .c .sc), (7, .c (.data (.int .u32))), (8, .c .sc), (9, .c .sc)] else [], ord := fun i => [] }
noncomputable def limbs_back_c : Code := (Tryd.f84.body).getD .skip
noncomputable def limbs_back_fin := finishW Γ_limbs_back 83 Tryd.f84.results.toList (.pair (.sl (.int .u32)) .unit) []
noncomputable def limbs_back_mk0 (u : List Int) (off : Nat) (len : Nat) (v : List Int) (carry : Int) (t7 : List Int) (t8 : Int) (t9 : Int) : St := { t := (upd (upd (upd (upd (upd (upd (fun _ => .undef) 0 (.one (.sub 0 off len))) 1 (.one (.sl (.int .u32) v))) 4 (.one (.int .u64 carry))) 7 (.one (.sl (.int .u32) t7))) 8 (.one (.int .i64 t8))) 9 (.one (.int .i64 t9))), m := (upd (upd (fun _ => .free) 0 .held) 0 (.row true 83 (.int .u32) u)), nx := 1000000, n := 41 }
theorem limbs_back_loop0 (K : Nat) : ∀ (n : Nat) (u : List Int) (off : Nat) (len : Nat) (v : List Int) (carry : Int) (t7 : List Int) (t8 : Int) (t9 : Int), loopAt Γ_limbs_back K [.r, .l, .r, .b] limbs_back_c [] limbs_back_fin (fun _ _ => none) limbs_back_fin n (limbs_back_mk0 u off len v carry t7 t8 t9) = limbs_back_l0 K n u off len v carry t7 t8 t9 := by
  intro n
  induction n with
  | zero => intro u off len v carry t7 t8 t9; kernel_rfl
  | succ n ih =>
    intro u off len v carry t7 t8 t9
    have e : loopAt Γ_limbs_back K [.r, .l, .r, .b] limbs_back_c [] limbs_back_fin (fun _ _ => none) limbs_back_fin (n + 1) (limbs_back_mk0 u off len v carry t7 t8 t9) = limbs_back_s0 (fun (u : List Int) (off : Nat) (len : Nat) (v : List Int) (carry : Int) (t7 : List Int) (t8 : Int) (t9 : Int) => loopAt Γ_limbs_back K [.r, .l, .r, .b] limbs_back_c [] limbs_back_fin (fun _ _ => none) limbs_back_fin n (limbs_back_mk0 u off len v carry t7 t8 t9)) u off len v carry t7 t8 t9 := by kernel_rfl
    rw [e]
    rw [show (fun (u : List Int) (off : Nat) (len : Nat) (v : List Int) (carry : Int) (t7 : List Int) (t8 : Int) (t9 : Int) => loopAt Γ_limbs_back K [.r, .l, .r, .b] limbs_back_c [] limbs_back_fin (fun _ _ => none) limbs_back_fin n (limbs_back_mk0 u off len v carry t7 t8 t9)) = _ from funext fun u => funext fun off => funext fun len => funext fun v => funext fun carry => funext fun t7 => funext fun t8 => funext fun t9 => ih u off len v carry t7 t8 t9]
    rfl
theorem limbs_back_eq (K : Nat) (u : List Int) (off : Int) (len : Int) (v : List Int) : exW Γ_limbs_back K Tryd.f84 83 (.pair (.sl (.int .u32)) (.pair (.int .i64) (.pair (.int .i64) (.pair (.sl (.int .u32)) .unit)))) (.pair (.sl (.int .u32)) .unit) [] (u, off, len, v, ()) = limbs_back K u off len v := by
  have e : exW Γ_limbs_back K Tryd.f84 83 (.pair (.sl (.int .u32)) (.pair (.int .i64) (.pair (.int .i64) (.pair (.sl (.int .u32)) .unit)))) (.pair (.sl (.int .u32)) .unit) [] (u, off, len, v, ()) = limbs_back_b (fun (u : List Int) (off : Nat) (len : Nat) (v : List Int) (carry : Int) (t7 : List Int) (t8 : Int) (t9 : Int) => loopAt Γ_limbs_back K [.r, .l, .r, .b] limbs_back_c [] limbs_back_fin (fun _ _ => none) limbs_back_fin K (limbs_back_mk0 u off len v carry t7 t8 t9)) u off len v := by kernel_rfl
  rw [e]
  rw [show (fun (u : List Int) (off : Nat) (len : Nat) (v : List Int) (carry : Int) (t7 : List Int) (t8 : Int) (t9 : Int) => loopAt Γ_limbs_back K [.r, .l, .r, .b] limbs_back_c [] limbs_back_fin (fun _ _ => none) limbs_back_fin K (limbs_back_mk0 u off len v carry t7 t8 t9)) = _ from funext fun u => funext fun off => funext fun len => funext fun v => funext fun carry => funext fun t7 => funext fun t8 => funext fun t9 => limbs_back_loop0 K K u off len v carry t7 t8 t9]
  rfl
theorem env_limbs_back : EnvOK Tryd.prog G Γ_limbs_back := ⟨T_ok, (phi_nil : PhiOK Tryd.prog G Γ_limbs_back.Φ), fun _ _ h => (by cases h), mixed⟩
theorem fn_limbs_back : FnOK Tryd.prog G 84 ⟨(.pair (.sl (.int .u32)) (.pair (.int .i64) (.pair (.int .i64) (.pair (.sl (.int .u32)) .unit)))), (.pair (.sl (.int .u32)) .unit), [], S.limbs_back, some 83⟩ := FnOK.ofW env_limbs_back Tryd.func84 (by kernel_rfl) (by kernel_rfl) (of_decide_eq_true (by kernel_rfl)) limbs_back_len (fun x y h => by obtain ⟨K, hK⟩ := limbs_back_ok x y h; exact ⟨K, (limbs_back_eq K x.1 x.2.1 x.2.2.1 x.2.2.2.1).trans hK⟩)

noncomputable def Γ_limbs_fits : Env := { T := T, Φ := fun i => bif Nat.beq i 47 then some ⟨(.pair (.sl (.int .u32)) .unit), (.pair (.sl (.int .u32)) .unit), [], S.limbs_trim, none⟩ else none, ann := fun i => [], ord := fun i => [] }
theorem limbs_fits_eq (K : Nat) (a : List Int) : exF Γ_limbs_fits K Tryd.f86 (.pair (.sl (.int .u32)) .unit) (.pair (.sl (.int .u32)) (.pair (.int .i64) .unit)) [] (a, ()) = limbs_fits a := by kernel_rfl
theorem env_limbs_fits : EnvOK Tryd.prog G Γ_limbs_fits := ⟨T_ok, ((phi_cons fn_limbs_trim phi_nil) : PhiOK Tryd.prog G Γ_limbs_fits.Φ), fun _ _ h => (by cases h), mixed⟩
theorem fn_limbs_fits : FnOK Tryd.prog G 86 ⟨(.pair (.sl (.int .u32)) .unit), (.pair (.sl (.int .u32)) (.pair (.int .i64) .unit)), [], S.limbs_fits, none⟩ := FnOK.of env_limbs_fits Tryd.func86 (by kernel_rfl) (by kernel_rfl) (of_decide_eq_true (by kernel_rfl)) (fun x y h => ⟨0, (limbs_fits_eq 0 x.1).trans h⟩)

noncomputable def Γ_limbs_Right : Env := { T := T, Φ := fun i => bif Nat.beq i 86 then some ⟨(.pair (.sl (.int .u32)) .unit), (.pair (.sl (.int .u32)) (.pair (.int .i64) .unit)), [], S.limbs_fits, none⟩ else none, ann := fun i => bif Nat.beq i 7 then [(0, .c (.data (.int .u32))), (1, .c .sc), (6, .c (.own 100 83 (.int .u32))), (23, .c .sc), (24, .c .sc)] else [], ord := fun i => [] }
noncomputable def limbs_Right_c : Code := (Tryd.f85.body).getD .skip
noncomputable def limbs_Right_fin := finish Γ_limbs_Right Tryd.f85.results.toList (.pair (.sl (.int .u32)) (.pair (.int .i64) .unit)) []
noncomputable def limbs_Right_mk0 (a : List Int) (n2 : Int) (out : List Int) (t23 : Int) (t24 : Int) : St := { t := (upd (upd (upd (upd (upd (fun _ => .undef) 0 (.one (.sl (.int .u32) a))) 1 (.one (.int .i64 n2))) 6 (.one (.own 100))) 23 (.one (.int .i64 t23))) 24 (.one (.int .i64 t24))), m := (upd (upd (fun _ => .free) 0 .held) 100 (.row true 83 (.int .u32) out)), nx := 1000000, n := 68 }
theorem limbs_Right_loop0 (K : Nat) : ∀ (n : Nat) (a : List Int) (n2 : Int) (out : List Int) (t23 : Int) (t24 : Int), loopAt Γ_limbs_Right K [.r, .r, .r, .r, .l, .r, .b] limbs_Right_c [] limbs_Right_fin (fun _ _ => none) limbs_Right_fin n (limbs_Right_mk0 a n2 out t23 t24) = limbs_Right_l0 K n a n2 out t23 t24 := by
  intro n
  induction n with
  | zero => intro a n2 out t23 t24; kernel_rfl
  | succ n ih =>
    intro a n2 out t23 t24
    have e : loopAt Γ_limbs_Right K [.r, .r, .r, .r, .l, .r, .b] limbs_Right_c [] limbs_Right_fin (fun _ _ => none) limbs_Right_fin (n + 1) (limbs_Right_mk0 a n2 out t23 t24) = limbs_Right_s0 (fun (a : List Int) (n2 : Int) (out : List Int) (t23 : Int) (t24 : Int) => loopAt Γ_limbs_Right K [.r, .r, .r, .r, .l, .r, .b] limbs_Right_c [] limbs_Right_fin (fun _ _ => none) limbs_Right_fin n (limbs_Right_mk0 a n2 out t23 t24)) a n2 out t23 t24 := by kernel_rfl
    rw [e]
    rw [show (fun (a : List Int) (n2 : Int) (out : List Int) (t23 : Int) (t24 : Int) => loopAt Γ_limbs_Right K [.r, .r, .r, .r, .l, .r, .b] limbs_Right_c [] limbs_Right_fin (fun _ _ => none) limbs_Right_fin n (limbs_Right_mk0 a n2 out t23 t24)) = _ from funext fun a => funext fun n2 => funext fun out => funext fun t23 => funext fun t24 => ih a n2 out t23 t24]
    rfl
theorem limbs_Right_eq (K : Nat) (a : List Int) (n : Int) : exF Γ_limbs_Right K Tryd.f85 (.pair (.sl (.int .u32)) (.pair (.int .i64) .unit)) (.pair (.sl (.int .u32)) (.pair (.int .i64) .unit)) [] (a, n, ()) = limbs_Right K a n := by
  have e : exF Γ_limbs_Right K Tryd.f85 (.pair (.sl (.int .u32)) (.pair (.int .i64) .unit)) (.pair (.sl (.int .u32)) (.pair (.int .i64) .unit)) [] (a, n, ()) = limbs_Right_b (fun (a : List Int) (n2 : Int) (out : List Int) (t23 : Int) (t24 : Int) => loopAt Γ_limbs_Right K [.r, .r, .r, .r, .l, .r, .b] limbs_Right_c [] limbs_Right_fin (fun _ _ => none) limbs_Right_fin K (limbs_Right_mk0 a n2 out t23 t24)) a n := by kernel_rfl
  rw [e]
  rw [show (fun (a : List Int) (n2 : Int) (out : List Int) (t23 : Int) (t24 : Int) => loopAt Γ_limbs_Right K [.r, .r, .r, .r, .l, .r, .b] limbs_Right_c [] limbs_Right_fin (fun _ _ => none) limbs_Right_fin K (limbs_Right_mk0 a n2 out t23 t24)) = _ from funext fun a => funext fun n2 => funext fun out => funext fun t23 => funext fun t24 => limbs_Right_loop0 K K a n2 out t23 t24]
  rfl
theorem env_limbs_Right : EnvOK Tryd.prog G Γ_limbs_Right := ⟨T_ok, ((phi_cons fn_limbs_fits phi_nil) : PhiOK Tryd.prog G Γ_limbs_Right.Φ), fun _ _ h => (by cases h), mixed⟩
theorem fn_limbs_Right : FnOK Tryd.prog G 85 ⟨(.pair (.sl (.int .u32)) (.pair (.int .i64) .unit)), (.pair (.sl (.int .u32)) (.pair (.int .i64) .unit)), [], S.limbs_Right, none⟩ := FnOK.of env_limbs_Right Tryd.func85 (by kernel_rfl) (by kernel_rfl) (of_decide_eq_true (by kernel_rfl)) (fun x y h => by obtain ⟨K, hK⟩ := limbs_Right_ok x y h; exact ⟨K, (limbs_Right_eq K x.1 x.2.1).trans hK⟩)

noncomputable def Γ_limbs_long : Env := { T := T, Φ := fun i => bif Nat.beq i 47 then some ⟨(.pair (.sl (.int .u32)) .unit), (.pair (.sl (.int .u32)) .unit), [], S.limbs_trim, none⟩ else bif Nat.beq i 81 then some ⟨(.pair (.int .u32) .unit), (.pair (.int .i64) .unit), [], S.bits_LeadingZeros32, none⟩ else bif Nat.beq i 82 then some ⟨(.pair (.sl (.int .u32)) (.pair (.int .i64) .unit)), (.pair (.sl (.int .u32)) .unit), [some 83], S.limbs_moved, none⟩ else bif Nat.beq i 83 then some ⟨(.pair (.sl (.int .u32)) (.pair (.int .i64) (.pair (.int .i64) (.pair (.sl (.int .u32)) (.pair (.int .u64) .unit))))), (.pair (.sl (.int .u32)) (.pair .bool .unit)), [], S.limbs_less, some 83⟩ else bif Nat.beq i 84 then some ⟨(.pair (.sl (.int .u32)) (.pair (.int .i64) (.pair (.int .i64) (.pair (.sl (.int .u32)) .unit)))), (.pair (.sl (.int .u32)) .unit), [], S.limbs_back, some 83⟩ else bif Nat.beq i 85 then some ⟨(.pair (.sl (.int .u32)) (.pair (.int .i64) .unit)), (.pair (.sl (.int .u32)) (.pair (.int .i64) .unit)), [], S.limbs_Right, none⟩ else none, ann := fun i => bif Nat.beq i 7 then [(6, .c .sc), (7, .c (.data (.int .u32))), (8, .c (.own 100 83 (.int .u32))), (9, .c (.own 101 83 (.int .u32))), (10, .c .sc), (11, .c .sc)] else bif Nat.beq i 11 then [(6, .c .sc), (7, .c (.data (.int .u32))), (8, .c (.own 100 83 (.int .u32))), (9, .c (.own 101 83 (.int .u32))), (10, .c .sc), (11, .c .sc), (13, .c .sc), (14, .c .sc)] else [], ord := fun i => bif Nat.beq i 9 then [0, 1, 2, 3, 4, 5, 6, 7, 8, 9, 10, 11, 12, 13, 14, 15, 16, 17] else bif Nat.beq i 10 then [0, 1, 2, 3, 4, 5, 6, 7, 8, 9, 10, 11, 12, 13, 14, 15, 16, 17] else bif Nat.beq i 11 then [0, 1, 2, 3, 4, 5, 6, 7, 8, 9, 10, 11, 12, 13, 14, 15, 16, 17, 18, 19, 20, 21, 22, 23, 24] else [] }
noncomputable def limbs_long_c : Code := (Tryd.f69.body).getD .skip
noncomputable def limbs_long_fin := finish Γ_limbs_long Tryd.f69.results.toList (.pair (.sl (.int .u32)) (.pair (.sl (.int .u32)) .unit)) []
noncomputable def limbs_long_mk0 (shift : Int) (v : List Int) (u : List Int) (q : List Int) (n2 : Int) (k : Int) : St := { t := (upd (upd (upd (upd (upd (upd (fun _ => .undef) 6 (.one (.int .i64 shift))) 7 (.one (.sl (.int .u32) v))) 8 (.one (.own 100))) 9 (.one (.own 101))) 10 (.one (.int .i64 n2))) 11 (.one (.int .i64 k))), m := (upd (upd (upd (fun _ => .free) 0 .held) 100 (.row true 83 (.int .u32) u)) 101 (.row true 83 (.int .u32) q)), nx := 1000000, n := 156 }
noncomputable def limbs_long_mk1 (shift : Int) (v : List Int) (u : List Int) (q : List Int) (n2 : Int) (k : Int) (guess : Int) (rest : Int) : St := { t := (upd (upd (upd (upd (upd (upd (upd (upd (fun _ => .undef) 6 (.one (.int .i64 shift))) 7 (.one (.sl (.int .u32) v))) 8 (.one (.own 100))) 9 (.one (.own 101))) 10 (.one (.int .i64 n2))) 11 (.one (.int .i64 k))) 13 (.one (.int .u64 guess))) 14 (.one (.int .u64 rest))), m := (upd (upd (upd (fun _ => .free) 0 .held) 100 (.row true 83 (.int .u32) u)) 101 (.row true 83 (.int .u32) q)), nx := 1000000, n := 156 }
theorem limbs_long_loop1 (K : Nat) (κ0 : St → Option (Den (.pair (.sl (.int .u32)) (.pair (.sl (.int .u32)) .unit)))) : ∀ (n : Nat) (shift : Int) (v : List Int) (u : List Int) (q : List Int) (n2 : Int) (k : Int) (guess : Int) (rest : Int), loopAt Γ_limbs_long K [.r, .r, .r, .r, .r, .r, .l, .r, .b, .c, .r, .l, .b, .r, .r, .l, .b] limbs_long_c [fun st => mask [(6, .c .sc), (7, .c (.data (.int .u32))), (8, .c (.own 100 83 (.int .u32))), (9, .c (.own 101 83 (.int .u32))), (10, .c .sc), (11, .c .sc)] 1000000 st (κ0)] limbs_long_fin (fun _ _ => none) limbs_long_fin n (limbs_long_mk1 shift v u q n2 k guess rest) = limbs_long_l1 K (fun (shift : Int) (v : List Int) (u : List Int) (q : List Int) (n2 : Int) (k : Int) => κ0 (limbs_long_mk0 shift v u q n2 k)) n shift v u q n2 k guess rest := by
  intro n
  induction n with
  | zero => intro shift v u q n2 k guess rest; kernel_rfl
  | succ n ih =>
    intro shift v u q n2 k guess rest
    have e : loopAt Γ_limbs_long K [.r, .r, .r, .r, .r, .r, .l, .r, .b, .c, .r, .l, .b, .r, .r, .l, .b] limbs_long_c [fun st => mask [(6, .c .sc), (7, .c (.data (.int .u32))), (8, .c (.own 100 83 (.int .u32))), (9, .c (.own 101 83 (.int .u32))), (10, .c .sc), (11, .c .sc)] 1000000 st (κ0)] limbs_long_fin (fun _ _ => none) limbs_long_fin (n + 1) (limbs_long_mk1 shift v u q n2 k guess rest) = limbs_long_s1 (fun (shift : Int) (v : List Int) (u : List Int) (q : List Int) (n2 : Int) (k : Int) => κ0 (limbs_long_mk0 shift v u q n2 k)) (fun (shift : Int) (v : List Int) (u : List Int) (q : List Int) (n2 : Int) (k : Int) (guess : Int) (rest : Int) => loopAt Γ_limbs_long K [.r, .r, .r, .r, .r, .r, .l, .r, .b, .c, .r, .l, .b, .r, .r, .l, .b] limbs_long_c [fun st => mask [(6, .c .sc), (7, .c (.data (.int .u32))), (8, .c (.own 100 83 (.int .u32))), (9, .c (.own 101 83 (.int .u32))), (10, .c .sc), (11, .c .sc)] 1000000 st (κ0)] limbs_long_fin (fun _ _ => none) limbs_long_fin n (limbs_long_mk1 shift v u q n2 k guess rest)) shift v u q n2 k guess rest := by kernel_rfl
    rw [e]
    rw [show (fun (shift : Int) (v : List Int) (u : List Int) (q : List Int) (n2 : Int) (k : Int) (guess : Int) (rest : Int) => loopAt Γ_limbs_long K [.r, .r, .r, .r, .r, .r, .l, .r, .b, .c, .r, .l, .b, .r, .r, .l, .b] limbs_long_c [fun st => mask [(6, .c .sc), (7, .c (.data (.int .u32))), (8, .c (.own 100 83 (.int .u32))), (9, .c (.own 101 83 (.int .u32))), (10, .c .sc), (11, .c .sc)] 1000000 st (κ0)] limbs_long_fin (fun _ _ => none) limbs_long_fin n (limbs_long_mk1 shift v u q n2 k guess rest)) = _ from funext fun shift => funext fun v => funext fun u => funext fun q => funext fun n2 => funext fun k => funext fun guess => funext fun rest => ih shift v u q n2 k guess rest]
    rfl
theorem limbs_long_loop0 (K : Nat) : ∀ (n : Nat) (shift : Int) (v : List Int) (u : List Int) (q : List Int) (n2 : Int) (k : Int), loopAt Γ_limbs_long K [.r, .r, .r, .r, .r, .r, .l, .r, .b] limbs_long_c [] limbs_long_fin (fun _ _ => none) limbs_long_fin n (limbs_long_mk0 shift v u q n2 k) = limbs_long_l0 K n shift v u q n2 k := by
  intro n
  induction n with
  | zero => intro shift v u q n2 k; kernel_rfl
  | succ n ih =>
    intro shift v u q n2 k
    have e : loopAt Γ_limbs_long K [.r, .r, .r, .r, .r, .r, .l, .r, .b] limbs_long_c [] limbs_long_fin (fun _ _ => none) limbs_long_fin (n + 1) (limbs_long_mk0 shift v u q n2 k) = limbs_long_s0 (fun (shift : Int) (v : List Int) (u : List Int) (q : List Int) (n2 : Int) (k : Int) (guess : Int) (rest : Int) => loopAt Γ_limbs_long K [.r, .r, .r, .r, .r, .r, .l, .r, .b, .c, .r, .l, .b, .r, .r, .l, .b] limbs_long_c [fun st => mask [(6, .c .sc), (7, .c (.data (.int .u32))), (8, .c (.own 100 83 (.int .u32))), (9, .c (.own 101 83 (.int .u32))), (10, .c .sc), (11, .c .sc)] 1000000 st (loopAt Γ_limbs_long K [.r, .r, .r, .r, .r, .r, .l, .r, .b] limbs_long_c [] limbs_long_fin (fun _ _ => none) limbs_long_fin n)] limbs_long_fin (fun _ _ => none) limbs_long_fin K (limbs_long_mk1 shift v u q n2 k guess rest)) (fun (shift : Int) (v : List Int) (u : List Int) (q : List Int) (n2 : Int) (k : Int) => loopAt Γ_limbs_long K [.r, .r, .r, .r, .r, .r, .l, .r, .b] limbs_long_c [] limbs_long_fin (fun _ _ => none) limbs_long_fin n (limbs_long_mk0 shift v u q n2 k)) shift v u q n2 k := by kernel_rfl
    rw [e]
    rw [show (fun (shift : Int) (v : List Int) (u : List Int) (q : List Int) (n2 : Int) (k : Int) (guess : Int) (rest : Int) => loopAt Γ_limbs_long K [.r, .r, .r, .r, .r, .r, .l, .r, .b, .c, .r, .l, .b, .r, .r, .l, .b] limbs_long_c [fun st => mask [(6, .c .sc), (7, .c (.data (.int .u32))), (8, .c (.own 100 83 (.int .u32))), (9, .c (.own 101 83 (.int .u32))), (10, .c .sc), (11, .c .sc)] 1000000 st (loopAt Γ_limbs_long K [.r, .r, .r, .r, .r, .r, .l, .r, .b] limbs_long_c [] limbs_long_fin (fun _ _ => none) limbs_long_fin n)] limbs_long_fin (fun _ _ => none) limbs_long_fin K (limbs_long_mk1 shift v u q n2 k guess rest)) = _ from funext fun shift => funext fun v => funext fun u => funext fun q => funext fun n2 => funext fun k => funext fun guess => funext fun rest => limbs_long_loop1 K (loopAt Γ_limbs_long K [.r, .r, .r, .r, .r, .r, .l, .r, .b] limbs_long_c [] limbs_long_fin (fun _ _ => none) limbs_long_fin n) K shift v u q n2 k guess rest]
    rw [show (fun (shift : Int) (v : List Int) (u : List Int) (q : List Int) (n2 : Int) (k : Int) => loopAt Γ_limbs_long K [.r, .r, .r, .r, .r, .r, .l, .r, .b] limbs_long_c [] limbs_long_fin (fun _ _ => none) limbs_long_fin n (limbs_long_mk0 shift v u q n2 k)) = _ from funext fun shift => funext fun v => funext fun u => funext fun q => funext fun n2 => funext fun k => ih shift v u q n2 k]
    rfl
theorem limbs_long_eq (K : Nat) (a : List Int) (b : List Int) : exF Γ_limbs_long K Tryd.f69 (.pair (.sl (.int .u32)) (.pair (.sl (.int .u32)) .unit)) (.pair (.sl (.int .u32)) (.pair (.sl (.int .u32)) .unit)) [] (a, b, ()) = limbs_long K a b := by
  have e : exF Γ_limbs_long K Tryd.f69 (.pair (.sl (.int .u32)) (.pair (.sl (.int .u32)) .unit)) (.pair (.sl (.int .u32)) (.pair (.sl (.int .u32)) .unit)) [] (a, b, ()) = limbs_long_b (fun (shift : Int) (v : List Int) (u : List Int) (q : List Int) (n2 : Int) (k : Int) => loopAt Γ_limbs_long K [.r, .r, .r, .r, .r, .r, .l, .r, .b] limbs_long_c [] limbs_long_fin (fun _ _ => none) limbs_long_fin K (limbs_long_mk0 shift v u q n2 k)) a b := by kernel_rfl
  rw [e]
  rw [show (fun (shift : Int) (v : List Int) (u : List Int) (q : List Int) (n2 : Int) (k : Int) => loopAt Γ_limbs_long K [.r, .r, .r, .r, .r, .r, .l, .r, .b] limbs_long_c [] limbs_long_fin (fun _ _ => none) limbs_long_fin K (limbs_long_mk0 shift v u q n2 k)) = _ from funext fun shift => funext fun v => funext fun u => funext fun q => funext fun n2 => funext fun k => limbs_long_loop0 K K shift v u q n2 k]
  rfl
theorem env_limbs_long : EnvOK Tryd.prog G Γ_limbs_long := ⟨T_ok, ((phi_cons fn_limbs_trim (phi_cons fn_bits_LeadingZeros32 (phi_cons fn_limbs_moved (phi_cons fn_limbs_less (phi_cons fn_limbs_back (phi_cons fn_limbs_Right phi_nil)))))) : PhiOK Tryd.prog G Γ_limbs_long.Φ), fun _ _ h => (by cases h), mixed⟩
theorem fn_limbs_long : FnOK Tryd.prog G 69 ⟨(.pair (.sl (.int .u32)) (.pair (.sl (.int .u32)) .unit)), (.pair (.sl (.int .u32)) (.pair (.sl (.int .u32)) .unit)), [], S.limbs_long, none⟩ := FnOK.of env_limbs_long Tryd.func69 (by kernel_rfl) (by kernel_rfl) (of_decide_eq_true (by kernel_rfl)) (fun x y h => by obtain ⟨K, hK⟩ := limbs_long_ok x y h; exact ⟨K, (limbs_long_eq K x.1 x.2.1).trans hK⟩)

noncomputable def Γ_limbs_Div : Env := { T := T, Φ := fun i => bif Nat.beq i 22 then some ⟨(.pair (.sl (.int .u32)) (.pair (.sl (.int .u32)) .unit)), (.pair (.int .i64) .unit), [], S.limbs_Compare, none⟩ else bif Nat.beq i 24 then some ⟨(.pair (.int .u64) .unit), (.pair (.sl (.int .u32)) .unit), [], S.limbs_Of, none⟩ else bif Nat.beq i 46 then some ⟨(.pair (.sl (.int .u32)) .unit), (.pair (.sl (.int .u32)) .unit), [none], S.slices_Clone_api_Nat_uint32, none⟩ else bif Nat.beq i 68 then some ⟨(.pair (.sl (.int .u32)) (.pair (.int .u32) .unit)), (.pair (.sl (.int .u32)) (.pair (.int .u32) .unit)), [], S.limbs_short, none⟩ else bif Nat.beq i 69 then some ⟨(.pair (.sl (.int .u32)) (.pair (.sl (.int .u32)) .unit)), (.pair (.sl (.int .u32)) (.pair (.sl (.int .u32)) .unit)), [], S.limbs_long, none⟩ else none, ann := fun i => [], ord := fun i => [] }
theorem limbs_Div_eq (K : Nat) (a : List Int) (b : List Int) : exF Γ_limbs_Div K Tryd.f45 (.pair (.sl (.int .u32)) (.pair (.sl (.int .u32)) .unit)) (.pair (.sl (.int .u32)) (.pair (.sl (.int .u32)) (.pair (.int .i64) .unit))) [] (a, b, ()) = limbs_Div a b := by kernel_rfl
theorem env_limbs_Div : EnvOK Tryd.prog G Γ_limbs_Div := ⟨T_ok, ((phi_cons fn_limbs_Compare (phi_cons fn_limbs_Of (phi_cons fn_slices_Clone_api_Nat_uint32 (phi_cons fn_limbs_short (phi_cons fn_limbs_long phi_nil))))) : PhiOK Tryd.prog G Γ_limbs_Div.Φ), fun _ _ h => (by cases h), mixed⟩
theorem fn_limbs_Div : FnOK Tryd.prog G 45 ⟨(.pair (.sl (.int .u32)) (.pair (.sl (.int .u32)) .unit)), (.pair (.sl (.int .u32)) (.pair (.sl (.int .u32)) (.pair (.int .i64) .unit))), [], S.limbs_Div, none⟩ := FnOK.of env_limbs_Div Tryd.func45 (by kernel_rfl) (by kernel_rfl) (of_decide_eq_true (by kernel_rfl)) (fun x y h => ⟨0, (limbs_Div_eq 0 x.1 x.2.1).trans h⟩)

noncomputable def Γ_digits_Gcd : Env := { T := T, Φ := fun i => bif Nat.beq i 45 then some ⟨(.pair (.sl (.int .u32)) (.pair (.sl (.int .u32)) .unit)), (.pair (.sl (.int .u32)) (.pair (.sl (.int .u32)) (.pair (.int .i64) .unit))), [], S.limbs_Div, none⟩ else bif Nat.beq i 46 then some ⟨(.pair (.sl (.int .u32)) .unit), (.pair (.sl (.int .u32)) .unit), [none], S.slices_Clone_api_Nat_uint32, none⟩ else none, ann := fun i => bif Nat.beq i 1 then [(0, .c (.data (.int .u32))), (1, .c (.data (.int .u32)))] else [], ord := fun i => [] }
noncomputable def digits_Gcd_c : Code := (Tryd.f23.body).getD .skip
noncomputable def digits_Gcd_fin := finish Γ_digits_Gcd Tryd.f23.results.toList (.pair (.sl (.int .u32)) .unit) []
noncomputable def digits_Gcd_mk0 (a : List Int) (b : List Int) : St := { t := (upd (upd (fun _ => .undef) 0 (.one (.sl (.int .u32) a))) 1 (.one (.sl (.int .u32) b))), m := (upd (fun _ => .free) 0 .held), nx := 1000000, n := 22 }
theorem digits_Gcd_loop0 (K : Nat) : ∀ (n : Nat) (a : List Int) (b : List Int), loopAt Γ_digits_Gcd K [.r, .l, .b] digits_Gcd_c [] digits_Gcd_fin (fun _ _ => none) digits_Gcd_fin n (digits_Gcd_mk0 a b) = digits_Gcd_l0 K n a b := by
  intro n
  induction n with
  | zero => intro a b; kernel_rfl
  | succ n ih =>
    intro a b
    have e : loopAt Γ_digits_Gcd K [.r, .l, .b] digits_Gcd_c [] digits_Gcd_fin (fun _ _ => none) digits_Gcd_fin (n + 1) (digits_Gcd_mk0 a b) = digits_Gcd_s0 (fun (a : List Int) (b : List Int) => loopAt Γ_digits_Gcd K [.r, .l, .b] digits_Gcd_c [] digits_Gcd_fin (fun _ _ => none) digits_Gcd_fin n (digits_Gcd_mk0 a b)) a b := by kernel_rfl
    rw [e]
    rw [show (fun (a : List Int) (b : List Int) => loopAt Γ_digits_Gcd K [.r, .l, .b] digits_Gcd_c [] digits_Gcd_fin (fun _ _ => none) digits_Gcd_fin n (digits_Gcd_mk0 a b)) = _ from funext fun a => funext fun b => ih a b]
    rfl
theorem digits_Gcd_eq (K : Nat) (a : List Int) (b : List Int) : exF Γ_digits_Gcd K Tryd.f23 (.pair (.sl (.int .u32)) (.pair (.sl (.int .u32)) .unit)) (.pair (.sl (.int .u32)) .unit) [] (a, b, ()) = digits_Gcd K a b := by
  have e : exF Γ_digits_Gcd K Tryd.f23 (.pair (.sl (.int .u32)) (.pair (.sl (.int .u32)) .unit)) (.pair (.sl (.int .u32)) .unit) [] (a, b, ()) = digits_Gcd_b (fun (a : List Int) (b : List Int) => loopAt Γ_digits_Gcd K [.r, .l, .b] digits_Gcd_c [] digits_Gcd_fin (fun _ _ => none) digits_Gcd_fin K (digits_Gcd_mk0 a b)) a b := by kernel_rfl
  rw [e]
  rw [show (fun (a : List Int) (b : List Int) => loopAt Γ_digits_Gcd K [.r, .l, .b] digits_Gcd_c [] digits_Gcd_fin (fun _ _ => none) digits_Gcd_fin K (digits_Gcd_mk0 a b)) = _ from funext fun a => funext fun b => digits_Gcd_loop0 K K a b]
  rfl
theorem env_digits_Gcd : EnvOK Tryd.prog G Γ_digits_Gcd := ⟨T_ok, ((phi_cons fn_limbs_Div (phi_cons fn_slices_Clone_api_Nat_uint32 phi_nil)) : PhiOK Tryd.prog G Γ_digits_Gcd.Φ), fun _ _ h => (by cases h), mixed⟩
theorem fn_digits_Gcd : FnOK Tryd.prog G 23 ⟨(.pair (.sl (.int .u32)) (.pair (.sl (.int .u32)) .unit)), (.pair (.sl (.int .u32)) .unit), [], S.digits_Gcd, none⟩ := FnOK.of env_digits_Gcd Tryd.func23 (by kernel_rfl) (by kernel_rfl) (of_decide_eq_true (by kernel_rfl)) (fun x y h => by obtain ⟨K, hK⟩ := digits_Gcd_ok x y h; exact ⟨K, (digits_Gcd_eq K x.1 x.2.1).trans hK⟩)

noncomputable def Γ_ratio_Check : Env := { T := T, Φ := fun i => bif Nat.beq i 20 then some ⟨(.pair tI .unit), (.pair (.int .i64) .unit), [], S.whole_Check, none⟩ else bif Nat.beq i 21 then some ⟨(.pair (.sl (.int .u32)) .unit), (.pair (.int .i64) .unit), [], S.limbs_Check, none⟩ else bif Nat.beq i 22 then some ⟨(.pair (.sl (.int .u32)) (.pair (.sl (.int .u32)) .unit)), (.pair (.int .i64) .unit), [], S.limbs_Compare, none⟩ else bif Nat.beq i 23 then some ⟨(.pair (.sl (.int .u32)) (.pair (.sl (.int .u32)) .unit)), (.pair (.sl (.int .u32)) .unit), [], S.digits_Gcd, none⟩ else bif Nat.beq i 24 then some ⟨(.pair (.int .u64) .unit), (.pair (.sl (.int .u32)) .unit), [], S.limbs_Of, none⟩ else none, ann := fun i => [], ord := fun i => [] }
theorem ratio_Check_eq (K : Nat) (a : dI × (List Int) × Unit) : exF Γ_ratio_Check K Tryd.f7 (.pair tR .unit) (.pair (.int .i64) .unit) [] (a, ()) = ratio_Check a := by kernel_rfl
theorem env_ratio_Check : EnvOK Tryd.prog G Γ_ratio_Check := ⟨T_ok, ((phi_cons fn_whole_Check (phi_cons fn_limbs_Check (phi_cons fn_limbs_Compare (phi_cons fn_digits_Gcd (phi_cons fn_limbs_Of phi_nil))))) : PhiOK Tryd.prog G Γ_ratio_Check.Φ), fun _ _ h => (by cases h), mixed⟩
theorem fn_ratio_Check : FnOK Tryd.prog G 7 ⟨(.pair tR .unit), (.pair (.int .i64) .unit), [], S.ratio_Check, none⟩ := FnOK.of env_ratio_Check Tryd.func7 (by kernel_rfl) (by kernel_rfl) (of_decide_eq_true (by kernel_rfl)) (fun x y h => ⟨0, (ratio_Check_eq 0 x.1).trans h⟩)

noncomputable def Γ_vec_Check : Env := { T := T, Φ := fun i => bif Nat.beq i 7 then some ⟨(.pair tR .unit), (.pair (.int .i64) .unit), [], S.ratio_Check, none⟩ else none, ann := fun i => bif Nat.beq i 4 then [(20, .c (.data tR)), (21, .c .sc), (22, .c .sc)] else [], ord := fun i => [] }
noncomputable def vec_Check_c : Code := (Tryd.f6.body).getD .skip
noncomputable def vec_Check_fin := finish Γ_vec_Check Tryd.f6.results.toList (.pair (.int .i64) .unit) []
noncomputable def vec_Check_mk0 (t20 : List dR) (t21 : Int) (t22 : Int) : St := { t := (upd (upd (upd (fun _ => .undef) 20 (.one (.sl tR t20))) 21 (.one (.int .i64 t21))) 22 (.one (.int .i64 t22))), m := (upd (fun _ => .free) 0 .held), nx := 1000000, n := 32 }
theorem vec_Check_loop0 (K : Nat) : ∀ (n : Nat) (t20 : List dR) (t21 : Int) (t22 : Int), loopAt Γ_vec_Check K [.r, .r, .l, .r, .b] vec_Check_c [] vec_Check_fin (fun _ _ => none) vec_Check_fin n (vec_Check_mk0 t20 t21 t22) = vec_Check_l0 K n t20 t21 t22 := by
  intro n
  induction n with
  | zero => intro t20 t21 t22; kernel_rfl
  | succ n ih =>
    intro t20 t21 t22
    have e : loopAt Γ_vec_Check K [.r, .r, .l, .r, .b] vec_Check_c [] vec_Check_fin (fun _ _ => none) vec_Check_fin (n + 1) (vec_Check_mk0 t20 t21 t22) = vec_Check_s0 (fun (t20 : List dR) (t21 : Int) (t22 : Int) => loopAt Γ_vec_Check K [.r, .r, .l, .r, .b] vec_Check_c [] vec_Check_fin (fun _ _ => none) vec_Check_fin n (vec_Check_mk0 t20 t21 t22)) t20 t21 t22 := by kernel_rfl
    rw [e]
    rw [show (fun (t20 : List dR) (t21 : Int) (t22 : Int) => loopAt Γ_vec_Check K [.r, .r, .l, .r, .b] vec_Check_c [] vec_Check_fin (fun _ _ => none) vec_Check_fin n (vec_Check_mk0 t20 t21 t22)) = _ from funext fun t20 => funext fun t21 => funext fun t22 => ih t20 t21 t22]
    rfl
theorem vec_Check_eq (K : Nat) (a : List dR) (n : Int) : exF Γ_vec_Check K Tryd.f6 (.pair (.sl tR) (.pair (.int .i64) .unit)) (.pair (.int .i64) .unit) [] (a, n, ()) = vec_Check K a n := by
  have e : exF Γ_vec_Check K Tryd.f6 (.pair (.sl tR) (.pair (.int .i64) .unit)) (.pair (.int .i64) .unit) [] (a, n, ()) = vec_Check_b (fun (t20 : List dR) (t21 : Int) (t22 : Int) => loopAt Γ_vec_Check K [.r, .r, .l, .r, .b] vec_Check_c [] vec_Check_fin (fun _ _ => none) vec_Check_fin K (vec_Check_mk0 t20 t21 t22)) a n := by kernel_rfl
  rw [e]
  rw [show (fun (t20 : List dR) (t21 : Int) (t22 : Int) => loopAt Γ_vec_Check K [.r, .r, .l, .r, .b] vec_Check_c [] vec_Check_fin (fun _ _ => none) vec_Check_fin K (vec_Check_mk0 t20 t21 t22)) = _ from funext fun t20 => funext fun t21 => funext fun t22 => vec_Check_loop0 K K t20 t21 t22]
  rfl
theorem env_vec_Check : EnvOK Tryd.prog G Γ_vec_Check := ⟨T_ok, ((phi_cons fn_ratio_Check phi_nil) : PhiOK Tryd.prog G Γ_vec_Check.Φ), fun _ _ h => (by cases h), mixed⟩
theorem fn_vec_Check : FnOK Tryd.prog G 6 ⟨(.pair (.sl tR) (.pair (.int .i64) .unit)), (.pair (.int .i64) .unit), [], S.vec_Check, none⟩ := FnOK.of env_vec_Check Tryd.func6 (by kernel_rfl) (by kernel_rfl) (of_decide_eq_true (by kernel_rfl)) (fun x y h => ⟨100, (vec_Check_eq 100 x.1 x.2.1).trans h⟩)

noncomputable def Γ_ratio_first : Env := { T := T, Φ := fun i => none, ann := fun i => bif Nat.beq i 2 then [(5, .c (.data (.int .i64))), (6, .c .sc), (7, .c .sc)] else [], ord := fun i => [] }
noncomputable def ratio_first_c : Code := (Tryd.f35.body).getD .skip
noncomputable def ratio_first_fin := finish Γ_ratio_first Tryd.f35.results.toList (.pair (.int .i64) .unit) []
noncomputable def ratio_first_mk0 (t5 : List Int) (t6 : Int) (t7 : Int) : St := { t := (upd (upd (upd (fun _ => .undef) 5 (.one (.sl (.int .i64) t5))) 6 (.one (.int .i64 t6))) 7 (.one (.int .i64 t7))), m := (upd (fun _ => .free) 0 .held), nx := 1000000, n := 15 }
theorem ratio_first_loop0 (K : Nat) : ∀ (n : Nat) (t5 : List Int) (t6 : Int) (t7 : Int), loopAt Γ_ratio_first K [.r, .l, .r, .b] ratio_first_c [] ratio_first_fin (fun _ _ => none) ratio_first_fin n (ratio_first_mk0 t5 t6 t7) = ratio_first_l0 K n t5 t6 t7 := by
  intro n
  induction n with
  | zero => intro t5 t6 t7; kernel_rfl
  | succ n ih =>
    intro t5 t6 t7
    have e : loopAt Γ_ratio_first K [.r, .l, .r, .b] ratio_first_c [] ratio_first_fin (fun _ _ => none) ratio_first_fin (n + 1) (ratio_first_mk0 t5 t6 t7) = ratio_first_s0 (fun (t5 : List Int) (t6 : Int) (t7 : Int) => loopAt Γ_ratio_first K [.r, .l, .r, .b] ratio_first_c [] ratio_first_fin (fun _ _ => none) ratio_first_fin n (ratio_first_mk0 t5 t6 t7)) t5 t6 t7 := by kernel_rfl
    rw [e]
    rw [show (fun (t5 : List Int) (t6 : Int) (t7 : Int) => loopAt Γ_ratio_first K [.r, .l, .r, .b] ratio_first_c [] ratio_first_fin (fun _ _ => none) ratio_first_fin n (ratio_first_mk0 t5 t6 t7)) = _ from funext fun t5 => funext fun t6 => funext fun t7 => ih t5 t6 t7]
    rfl
theorem ratio_first_eq (K : Nat) (list : List Int) : exF Γ_ratio_first K Tryd.f35 (.pair (.sl (.int .i64)) .unit) (.pair (.int .i64) .unit) [] (list, ()) = ratio_first K list := by
  have e : exF Γ_ratio_first K Tryd.f35 (.pair (.sl (.int .i64)) .unit) (.pair (.int .i64) .unit) [] (list, ()) = ratio_first_b (fun (t5 : List Int) (t6 : Int) (t7 : Int) => loopAt Γ_ratio_first K [.r, .l, .r, .b] ratio_first_c [] ratio_first_fin (fun _ _ => none) ratio_first_fin K (ratio_first_mk0 t5 t6 t7)) list := by kernel_rfl
  rw [e]
  rw [show (fun (t5 : List Int) (t6 : Int) (t7 : Int) => loopAt Γ_ratio_first K [.r, .l, .r, .b] ratio_first_c [] ratio_first_fin (fun _ _ => none) ratio_first_fin K (ratio_first_mk0 t5 t6 t7)) = _ from funext fun t5 => funext fun t6 => funext fun t7 => ratio_first_loop0 K K t5 t6 t7]
  rfl
theorem env_ratio_first : EnvOK Tryd.prog G Γ_ratio_first := ⟨T_ok, (phi_nil : PhiOK Tryd.prog G Γ_ratio_first.Φ), fun _ _ h => (by cases h), mixed⟩
theorem fn_ratio_first : FnOK Tryd.prog G 35 ⟨(.pair (.sl (.int .i64)) .unit), (.pair (.int .i64) .unit), [], S.ratio_first, none⟩ := FnOK.of env_ratio_first Tryd.func35 (by kernel_rfl) (by kernel_rfl) (of_decide_eq_true (by kernel_rfl)) (fun x y h => by obtain ⟨K, hK⟩ := ratio_first_ok x y h; exact ⟨K, (ratio_first_eq K x.1).trans hK⟩)

noncomputable def Γ_whole_of : Env := { T := T, Φ := fun i => none, ann := fun i => [], ord := fun i => [] }
theorem whole_of_eq (K : Nat) (minus : Bool) (size : List Int) : exF Γ_whole_of K Tryd.f62 tI (.pair tI .unit) [] (minus, size, ()) = whole_of minus size := by kernel_rfl
theorem env_whole_of : EnvOK Tryd.prog G Γ_whole_of := ⟨T_ok, (phi_nil : PhiOK Tryd.prog G Γ_whole_of.Φ), fun _ _ h => (by cases h), mixed⟩
theorem fn_whole_of : FnOK Tryd.prog G 62 ⟨tI, (.pair tI .unit), [], S.whole_of, none⟩ := FnOK.of env_whole_of Tryd.func62 (by kernel_rfl) (by kernel_rfl) (of_decide_eq_true (by kernel_rfl)) (fun x y h => ⟨0, (whole_of_eq 0 x.1 x.2.1).trans h⟩)

noncomputable def Γ_limbs_Mul : Env := { T := T, Φ := fun i => bif Nat.beq i 86 then some ⟨(.pair (.sl (.int .u32)) .unit), (.pair (.sl (.int .u32)) (.pair (.int .i64) .unit)), [], S.limbs_fits, none⟩ else none, ann := fun i => bif Nat.beq i 7 then [(1, .c (.data (.int .u32))), (6, .c (.own 100 83 (.int .u32))), (32, .c (.data (.int .u32))), (33, .c .sc), (34, .c .sc)] else bif Nat.beq i 11 then [(1, .c (.data (.int .u32))), (6, .c (.own 100 83 (.int .u32))), (7, .c .sc), (8, .c .sc), (9, .c .sc), (32, .c (.data (.int .u32))), (33, .c .sc), (34, .c .sc), (39, .c (.data (.int .u32))), (40, .c .sc), (41, .c .sc)] else [], ord := fun i => [] }
noncomputable def limbs_Mul_c : Code := (Tryd.f70.body).getD .skip
noncomputable def limbs_Mul_fin := finish Γ_limbs_Mul Tryd.f70.results.toList (.pair (.sl (.int .u32)) (.pair (.int .i64) .unit)) []
noncomputable def limbs_Mul_mk0 (b : List Int) (out : List Int) (t32 : List Int) (t33 : Int) (t34 : Int) : St := { t := (upd (upd (upd (upd (upd (fun _ => .undef) 1 (.one (.sl (.int .u32) b))) 6 (.one (.own 100))) 32 (.one (.sl (.int .u32) t32))) 33 (.one (.int .i64 t33))) 34 (.one (.int .i64 t34))), m := (upd (upd (fun _ => .free) 0 .held) 100 (.row true 83 (.int .u32) out)), nx := 1000000, n := 84 }
noncomputable def limbs_Mul_mk1 (b : List Int) (out : List Int) (i : Int) (x : Int) (carry : Int) (t32 : List Int) (t33 : Int) (t34 : Int) (t39 : List Int) (t40 : Int) (t41 : Int) : St := { t := (upd (upd (upd (upd (upd (upd (upd (upd (upd (upd (upd (fun _ => .undef) 1 (.one (.sl (.int .u32) b))) 6 (.one (.own 100))) 7 (.one (.int .i64 i))) 8 (.one (.int .u32 x))) 9 (.one (.int .u64 carry))) 32 (.one (.sl (.int .u32) t32))) 33 (.one (.int .i64 t33))) 34 (.one (.int .i64 t34))) 39 (.one (.sl (.int .u32) t39))) 40 (.one (.int .i64 t40))) 41 (.one (.int .i64 t41))), m := (upd (upd (fun _ => .free) 0 .held) 100 (.row true 83 (.int .u32) out)), nx := 1000000, n := 84 }
theorem limbs_Mul_loop1 (K : Nat) (κ0 : St → Option (Den (.pair (.sl (.int .u32)) (.pair (.int .i64) .unit)))) : ∀ (n : Nat) (b : List Int) (out : List Int) (i : Int) (x : Int) (carry : Int) (t32 : List Int) (t33 : Int) (t34 : Int) (t39 : List Int) (t40 : Int) (t41 : Int), loopAt Γ_limbs_Mul K [.r, .r, .r, .r, .l, .r, .b, .c, .r, .r, .l, .b, .r, .r, .l, .r, .b] limbs_Mul_c [fun st => mask [(1, .c (.data (.int .u32))), (6, .c (.own 100 83 (.int .u32))), (32, .c (.data (.int .u32))), (33, .c .sc), (34, .c .sc)] 1000000 st (κ0)] limbs_Mul_fin (fun _ _ => none) limbs_Mul_fin n (limbs_Mul_mk1 b out i x carry t32 t33 t34 t39 t40 t41) = limbs_Mul_l1 K (fun (b : List Int) (out : List Int) (t32 : List Int) (t33 : Int) (t34 : Int) => κ0 (limbs_Mul_mk0 b out t32 t33 t34)) n b out i x carry t32 t33 t34 t39 t40 t41 := by
  intro n
  induction n with
  | zero => intro b out i x carry t32 t33 t34 t39 t40 t41; kernel_rfl
  | succ n ih =>
    intro b out i x carry t32 t33 t34 t39 t40 t41
    have e : loopAt Γ_limbs_Mul K [.r, .r, .r, .r, .l, .r, .b, .c, .r, .r, .l, .b, .r, .r, .l, .r, .b] limbs_Mul_c [fun st => mask [(1, .c (.data (.int .u32))), (6, .c (.own 100 83 (.int .u32))), (32, .c (.data (.int .u32))), (33, .c .sc), (34, .c .sc)] 1000000 st (κ0)] limbs_Mul_fin (fun _ _ => none) limbs_Mul_fin (n + 1) (limbs_Mul_mk1 b out i x carry t32 t33 t34 t39 t40 t41) = limbs_Mul_s1 (fun (b : List Int) (out : List Int) (t32 : List Int) (t33 : Int) (t34 : Int) => κ0 (limbs_Mul_mk0 b out t32 t33 t34)) (fun (b : List Int) (out : List Int) (i : Int) (x : Int) (carry : Int) (t32 : List Int) (t33 : Int) (t34 : Int) (t39 : List Int) (t40 : Int) (t41 : Int) => loopAt Γ_limbs_Mul K [.r, .r, .r, .r, .l, .r, .b, .c, .r, .r, .l, .b, .r, .r, .l, .r, .b] limbs_Mul_c [fun st => mask [(1, .c (.data (.int .u32))), (6, .c (.own 100 83 (.int .u32))), (32, .c (.data (.int .u32))), (33, .c .sc), (34, .c .sc)] 1000000 st (κ0)] limbs_Mul_fin (fun _ _ => none) limbs_Mul_fin n (limbs_Mul_mk1 b out i x carry t32 t33 t34 t39 t40 t41)) b out i x carry t32 t33 t34 t39 t40 t41 := by kernel_rfl
    rw [e]
    rw [show (fun (b : List Int) (out : List Int) (i : Int) (x : Int) (carry : Int) (t32 : List Int) (t33 : Int) (t34 : Int) (t39 : List Int) (t40 : Int) (t41 : Int) => loopAt Γ_limbs_Mul K [.r, .r, .r, .r, .l, .r, .b, .c, .r, .r, .l, .b, .r, .r, .l, .r, .b] limbs_Mul_c [fun st => mask [(1, .c (.data (.int .u32))), (6, .c (.own 100 83 (.int .u32))), (32, .c (.data (.int .u32))), (33, .c .sc), (34, .c .sc)] 1000000 st (κ0)] limbs_Mul_fin (fun _ _ => none) limbs_Mul_fin n (limbs_Mul_mk1 b out i x carry t32 t33 t34 t39 t40 t41)) = _ from funext fun b => funext fun out => funext fun i => funext fun x => funext fun carry => funext fun t32 => funext fun t33 => funext fun t34 => funext fun t39 => funext fun t40 => funext fun t41 => ih b out i x carry t32 t33 t34 t39 t40 t41]
    rfl
theorem limbs_Mul_loop0 (K : Nat) : ∀ (n : Nat) (b : List Int) (out : List Int) (t32 : List Int) (t33 : Int) (t34 : Int), loopAt Γ_limbs_Mul K [.r, .r, .r, .r, .l, .r, .b] limbs_Mul_c [] limbs_Mul_fin (fun _ _ => none) limbs_Mul_fin n (limbs_Mul_mk0 b out t32 t33 t34) = limbs_Mul_l0 K n b out t32 t33 t34 := by
  intro n
  induction n with
  | zero => intro b out t32 t33 t34; kernel_rfl
  | succ n ih =>
    intro b out t32 t33 t34
    have e : loopAt Γ_limbs_Mul K [.r, .r, .r, .r, .l, .r, .b] limbs_Mul_c [] limbs_Mul_fin (fun _ _ => none) limbs_Mul_fin (n + 1) (limbs_Mul_mk0 b out t32 t33 t34) = limbs_Mul_s0 (fun (b : List Int) (out : List Int) (i : Int) (x : Int) (carry : Int) (t32 : List Int) (t33 : Int) (t34 : Int) (t39 : List Int) (t40 : Int) (t41 : Int) => loopAt Γ_limbs_Mul K [.r, .r, .r, .r, .l, .r, .b, .c, .r, .r, .l, .b, .r, .r, .l, .r, .b] limbs_Mul_c [fun st => mask [(1, .c (.data (.int .u32))), (6, .c (.own 100 83 (.int .u32))), (32, .c (.data (.int .u32))), (33, .c .sc), (34, .c .sc)] 1000000 st (loopAt Γ_limbs_Mul K [.r, .r, .r, .r, .l, .r, .b] limbs_Mul_c [] limbs_Mul_fin (fun _ _ => none) limbs_Mul_fin n)] limbs_Mul_fin (fun _ _ => none) limbs_Mul_fin K (limbs_Mul_mk1 b out i x carry t32 t33 t34 t39 t40 t41)) (fun (b : List Int) (out : List Int) (t32 : List Int) (t33 : Int) (t34 : Int) => loopAt Γ_limbs_Mul K [.r, .r, .r, .r, .l, .r, .b] limbs_Mul_c [] limbs_Mul_fin (fun _ _ => none) limbs_Mul_fin n (limbs_Mul_mk0 b out t32 t33 t34)) b out t32 t33 t34 := by kernel_rfl
    rw [e]
    rw [show (fun (b : List Int) (out : List Int) (i : Int) (x : Int) (carry : Int) (t32 : List Int) (t33 : Int) (t34 : Int) (t39 : List Int) (t40 : Int) (t41 : Int) => loopAt Γ_limbs_Mul K [.r, .r, .r, .r, .l, .r, .b, .c, .r, .r, .l, .b, .r, .r, .l, .r, .b] limbs_Mul_c [fun st => mask [(1, .c (.data (.int .u32))), (6, .c (.own 100 83 (.int .u32))), (32, .c (.data (.int .u32))), (33, .c .sc), (34, .c .sc)] 1000000 st (loopAt Γ_limbs_Mul K [.r, .r, .r, .r, .l, .r, .b] limbs_Mul_c [] limbs_Mul_fin (fun _ _ => none) limbs_Mul_fin n)] limbs_Mul_fin (fun _ _ => none) limbs_Mul_fin K (limbs_Mul_mk1 b out i x carry t32 t33 t34 t39 t40 t41)) = _ from funext fun b => funext fun out => funext fun i => funext fun x => funext fun carry => funext fun t32 => funext fun t33 => funext fun t34 => funext fun t39 => funext fun t40 => funext fun t41 => limbs_Mul_loop1 K (loopAt Γ_limbs_Mul K [.r, .r, .r, .r, .l, .r, .b] limbs_Mul_c [] limbs_Mul_fin (fun _ _ => none) limbs_Mul_fin n) K b out i x carry t32 t33 t34 t39 t40 t41]
    rw [show (fun (b : List Int) (out : List Int) (t32 : List Int) (t33 : Int) (t34 : Int) => loopAt Γ_limbs_Mul K [.r, .r, .r, .r, .l, .r, .b] limbs_Mul_c [] limbs_Mul_fin (fun _ _ => none) limbs_Mul_fin n (limbs_Mul_mk0 b out t32 t33 t34)) = _ from funext fun b => funext fun out => funext fun t32 => funext fun t33 => funext fun t34 => ih b out t32 t33 t34]
    rfl
theorem limbs_Mul_eq (K : Nat) (a : List Int) (b : List Int) : exF Γ_limbs_Mul K Tryd.f70 (.pair (.sl (.int .u32)) (.pair (.sl (.int .u32)) .unit)) (.pair (.sl (.int .u32)) (.pair (.int .i64) .unit)) [] (a, b, ()) = limbs_Mul K a b := by
  have e : exF Γ_limbs_Mul K Tryd.f70 (.pair (.sl (.int .u32)) (.pair (.sl (.int .u32)) .unit)) (.pair (.sl (.int .u32)) (.pair (.int .i64) .unit)) [] (a, b, ()) = limbs_Mul_b (fun (b : List Int) (out : List Int) (t32 : List Int) (t33 : Int) (t34 : Int) => loopAt Γ_limbs_Mul K [.r, .r, .r, .r, .l, .r, .b] limbs_Mul_c [] limbs_Mul_fin (fun _ _ => none) limbs_Mul_fin K (limbs_Mul_mk0 b out t32 t33 t34)) a b := by kernel_rfl
  rw [e]
  rw [show (fun (b : List Int) (out : List Int) (t32 : List Int) (t33 : Int) (t34 : Int) => loopAt Γ_limbs_Mul K [.r, .r, .r, .r, .l, .r, .b] limbs_Mul_c [] limbs_Mul_fin (fun _ _ => none) limbs_Mul_fin K (limbs_Mul_mk0 b out t32 t33 t34)) = _ from funext fun b => funext fun out => funext fun t32 => funext fun t33 => funext fun t34 => limbs_Mul_loop0 K K b out t32 t33 t34]
  rfl
theorem env_limbs_Mul : EnvOK Tryd.prog G Γ_limbs_Mul := ⟨T_ok, ((phi_cons fn_limbs_fits phi_nil) : PhiOK Tryd.prog G Γ_limbs_Mul.Φ), fun _ _ h => (by cases h), mixed⟩
theorem fn_limbs_Mul : FnOK Tryd.prog G 70 ⟨(.pair (.sl (.int .u32)) (.pair (.sl (.int .u32)) .unit)), (.pair (.sl (.int .u32)) (.pair (.int .i64) .unit)), [], S.limbs_Mul, none⟩ := FnOK.of env_limbs_Mul Tryd.func70 (by kernel_rfl) (by kernel_rfl) (of_decide_eq_true (by kernel_rfl)) (fun x y h => by obtain ⟨K, hK⟩ := limbs_Mul_ok x y h; exact ⟨K, (limbs_Mul_eq K x.1 x.2.1).trans hK⟩)

noncomputable def Γ_whole_Mul : Env := { T := T, Φ := fun i => bif Nat.beq i 62 then some ⟨tI, (.pair tI .unit), [], S.whole_of, none⟩ else bif Nat.beq i 70 then some ⟨(.pair (.sl (.int .u32)) (.pair (.sl (.int .u32)) .unit)), (.pair (.sl (.int .u32)) (.pair (.int .i64) .unit)), [], S.limbs_Mul, none⟩ else none, ann := fun i => [], ord := fun i => [] }
theorem whole_Mul_eq (K : Nat) (a : Bool × (List Int) × Unit) (b : Bool × (List Int) × Unit) : exF Γ_whole_Mul K Tryd.f48 (.pair tI (.pair tI .unit)) tY [] (a, b, ()) = whole_Mul a b := by kernel_rfl
theorem env_whole_Mul : EnvOK Tryd.prog G Γ_whole_Mul := ⟨T_ok, ((phi_cons fn_whole_of (phi_cons fn_limbs_Mul phi_nil)) : PhiOK Tryd.prog G Γ_whole_Mul.Φ), fun _ _ h => (by cases h), mixed⟩
theorem fn_whole_Mul : FnOK Tryd.prog G 48 ⟨(.pair tI (.pair tI .unit)), tY, [], S.whole_Mul, none⟩ := FnOK.of env_whole_Mul Tryd.func48 (by kernel_rfl) (by kernel_rfl) (of_decide_eq_true (by kernel_rfl)) (fun x y h => ⟨0, (whole_Mul_eq 0 x.1 x.2.1).trans h⟩)

noncomputable def Γ_whole_Nat : Env := { T := T, Φ := fun i => bif Nat.beq i 46 then some ⟨(.pair (.sl (.int .u32)) .unit), (.pair (.sl (.int .u32)) .unit), [none], S.slices_Clone_api_Nat_uint32, none⟩ else bif Nat.beq i 62 then some ⟨tI, (.pair tI .unit), [], S.whole_of, none⟩ else none, ann := fun i => [], ord := fun i => [] }
theorem whole_Nat_eq (K : Nat) (a : List Int) : exF Γ_whole_Nat K Tryd.f37 (.pair (.sl (.int .u32)) .unit) (.pair tI .unit) [] (a, ()) = whole_Nat a := by kernel_rfl
theorem env_whole_Nat : EnvOK Tryd.prog G Γ_whole_Nat := ⟨T_ok, ((phi_cons fn_slices_Clone_api_Nat_uint32 (phi_cons fn_whole_of phi_nil)) : PhiOK Tryd.prog G Γ_whole_Nat.Φ), fun _ _ h => (by cases h), mixed⟩
theorem fn_whole_Nat : FnOK Tryd.prog G 37 ⟨(.pair (.sl (.int .u32)) .unit), (.pair tI .unit), [], S.whole_Nat, none⟩ := FnOK.of env_whole_Nat Tryd.func37 (by kernel_rfl) (by kernel_rfl) (of_decide_eq_true (by kernel_rfl)) (fun x y h => ⟨0, (whole_Nat_eq 0 x.1).trans h⟩)

noncomputable def Γ_ratio_den : Env := { T := T, Φ := fun i => bif Nat.beq i 37 then some ⟨(.pair (.sl (.int .u32)) .unit), (.pair tI .unit), [], S.whole_Nat, none⟩ else none, ann := fun i => [], ord := fun i => [] }
theorem ratio_den_eq (K : Nat) (a : dI × (List Int) × Unit) : exF Γ_ratio_den K Tryd.f49 (.pair tR .unit) (.pair tI .unit) [] (a, ()) = ratio_den a := by kernel_rfl
theorem env_ratio_den : EnvOK Tryd.prog G Γ_ratio_den := ⟨T_ok, ((phi_cons fn_whole_Nat phi_nil) : PhiOK Tryd.prog G Γ_ratio_den.Φ), fun _ _ h => (by cases h), mixed⟩
theorem fn_ratio_den : FnOK Tryd.prog G 49 ⟨(.pair tR .unit), (.pair tI .unit), [], S.ratio_den, none⟩ := FnOK.of env_ratio_den Tryd.func49 (by kernel_rfl) (by kernel_rfl) (of_decide_eq_true (by kernel_rfl)) (fun x y h => ⟨0, (ratio_den_eq 0 x.1).trans h⟩)

noncomputable def Γ_whole_Sign : Env := { T := T, Φ := fun i => none, ann := fun i => [], ord := fun i => [] }
theorem whole_Sign_eq (K : Nat) (a : Bool × (List Int) × Unit) : exF Γ_whole_Sign K Tryd.f64 (.pair tI .unit) (.pair (.int .i64) .unit) [] (a, ()) = whole_Sign a := by kernel_rfl
theorem env_whole_Sign : EnvOK Tryd.prog G Γ_whole_Sign := ⟨T_ok, (phi_nil : PhiOK Tryd.prog G Γ_whole_Sign.Φ), fun _ _ h => (by cases h), mixed⟩
theorem fn_whole_Sign : FnOK Tryd.prog G 64 ⟨(.pair tI .unit), (.pair (.int .i64) .unit), [], S.whole_Sign, none⟩ := FnOK.of env_whole_Sign Tryd.func64 (by kernel_rfl) (by kernel_rfl) (of_decide_eq_true (by kernel_rfl)) (fun x y h => ⟨0, (whole_Sign_eq 0 x.1).trans h⟩)

noncomputable def Γ_whole_Compare : Env := { T := T, Φ := fun i => bif Nat.beq i 22 then some ⟨(.pair (.sl (.int .u32)) (.pair (.sl (.int .u32)) .unit)), (.pair (.int .i64) .unit), [], S.limbs_Compare, none⟩ else bif Nat.beq i 64 then some ⟨(.pair tI .unit), (.pair (.int .i64) .unit), [], S.whole_Sign, none⟩ else none, ann := fun i => [], ord := fun i => bif Nat.beq i 1 then [0, 2, 1, 3, 4, 5] else [] }
theorem whole_Compare_eq (K : Nat) (a : Bool × (List Int) × Unit) (b : Bool × (List Int) × Unit) : exF Γ_whole_Compare K Tryd.f50 (.pair tI (.pair tI .unit)) (.pair (.int .i64) .unit) [] (a, b, ()) = whole_Compare a b := by kernel_rfl
theorem env_whole_Compare : EnvOK Tryd.prog G Γ_whole_Compare := ⟨T_ok, ((phi_cons fn_limbs_Compare (phi_cons fn_whole_Sign phi_nil)) : PhiOK Tryd.prog G Γ_whole_Compare.Φ), fun _ _ h => (by cases h), mixed⟩
theorem fn_whole_Compare : FnOK Tryd.prog G 50 ⟨(.pair tI (.pair tI .unit)), (.pair (.int .i64) .unit), [], S.whole_Compare, none⟩ := FnOK.of env_whole_Compare Tryd.func50 (by kernel_rfl) (by kernel_rfl) (of_decide_eq_true (by kernel_rfl)) (fun x y h => ⟨0, (whole_Compare_eq 0 x.1 x.2.1).trans h⟩)

noncomputable def Γ_ratio_Compare : Env := { T := T, Φ := fun i => bif Nat.beq i 35 then some ⟨(.pair (.sl (.int .i64)) .unit), (.pair (.int .i64) .unit), [], S.ratio_first, none⟩ else bif Nat.beq i 48 then some ⟨(.pair tI (.pair tI .unit)), tY, [], S.whole_Mul, none⟩ else bif Nat.beq i 49 then some ⟨(.pair tR .unit), (.pair tI .unit), [], S.ratio_den, none⟩ else bif Nat.beq i 50 then some ⟨(.pair tI (.pair tI .unit)), (.pair (.int .i64) .unit), [], S.whole_Compare, none⟩ else none, ann := fun i => [], ord := fun i => bif Nat.beq i 1 then [0, 1, 2, 3, 4, 5, 6, 7, 8, 9, 10] else bif Nat.beq i 2 then [0, 1, 2, 3, 4, 5, 6, 7, 8, 9, 10] else [] }
theorem ratio_Compare_eq (K : Nat) (a : dI × (List Int) × Unit) (b : dI × (List Int) × Unit) : exF Γ_ratio_Compare K Tryd.f25 (.pair tR (.pair tR .unit)) (.pair (.int .i64) (.pair (.int .i64) .unit)) [] (a, b, ()) = ratio_Compare a b := by kernel_rfl
theorem env_ratio_Compare : EnvOK Tryd.prog G Γ_ratio_Compare := ⟨T_ok, ((phi_cons fn_ratio_first (phi_cons fn_whole_Mul (phi_cons fn_ratio_den (phi_cons fn_whole_Compare phi_nil)))) : PhiOK Tryd.prog G Γ_ratio_Compare.Φ), fun _ _ h => (by cases h), mixed⟩
theorem fn_ratio_Compare : FnOK Tryd.prog G 25 ⟨(.pair tR (.pair tR .unit)), (.pair (.int .i64) (.pair (.int .i64) .unit)), [], S.ratio_Compare, none⟩ := FnOK.of env_ratio_Compare Tryd.func25 (by kernel_rfl) (by kernel_rfl) (of_decide_eq_true (by kernel_rfl)) (fun x y h => ⟨0, (ratio_Compare_eq 0 x.1 x.2.1).trans h⟩)

noncomputable def Γ_whole_Abs : Env := { T := T, Φ := fun i => bif Nat.beq i 46 then some ⟨(.pair (.sl (.int .u32)) .unit), (.pair (.sl (.int .u32)) .unit), [none], S.slices_Clone_api_Nat_uint32, none⟩ else bif Nat.beq i 62 then some ⟨tI, (.pair tI .unit), [], S.whole_of, none⟩ else none, ann := fun i => [], ord := fun i => [] }
theorem whole_Abs_eq (K : Nat) (a : Bool × (List Int) × Unit) : exF Γ_whole_Abs K Tryd.f51 (.pair tI .unit) (.pair tI .unit) [] (a, ()) = whole_Abs a := by kernel_rfl
theorem env_whole_Abs : EnvOK Tryd.prog G Γ_whole_Abs := ⟨T_ok, ((phi_cons fn_slices_Clone_api_Nat_uint32 (phi_cons fn_whole_of phi_nil)) : PhiOK Tryd.prog G Γ_whole_Abs.Φ), fun _ _ h => (by cases h), mixed⟩
theorem fn_whole_Abs : FnOK Tryd.prog G 51 ⟨(.pair tI .unit), (.pair tI .unit), [], S.whole_Abs, none⟩ := FnOK.of env_whole_Abs Tryd.func51 (by kernel_rfl) (by kernel_rfl) (of_decide_eq_true (by kernel_rfl)) (fun x y h => ⟨0, (whole_Abs_eq 0 x.1).trans h⟩)

noncomputable def Γ_ratio_Abs : Env := { T := T, Φ := fun i => bif Nat.beq i 46 then some ⟨(.pair (.sl (.int .u32)) .unit), (.pair (.sl (.int .u32)) .unit), [none], S.slices_Clone_api_Nat_uint32, none⟩ else bif Nat.beq i 51 then some ⟨(.pair tI .unit), (.pair tI .unit), [], S.whole_Abs, none⟩ else none, ann := fun i => [], ord := fun i => bif Nat.beq i 1 then [0, 1, 3, 4, 2, 5, 6, 7] else [] }
theorem ratio_Abs_eq (K : Nat) (a : dI × (List Int) × Unit) : exF Γ_ratio_Abs K Tryd.f26 (.pair tR .unit) (.pair tR .unit) [] (a, ()) = ratio_Abs a := by kernel_rfl
theorem env_ratio_Abs : EnvOK Tryd.prog G Γ_ratio_Abs := ⟨T_ok, ((phi_cons fn_slices_Clone_api_Nat_uint32 (phi_cons fn_whole_Abs phi_nil)) : PhiOK Tryd.prog G Γ_ratio_Abs.Φ), fun _ _ h => (by cases h), mixed⟩
theorem fn_ratio_Abs : FnOK Tryd.prog G 26 ⟨(.pair tR .unit), (.pair tR .unit), [], S.ratio_Abs, none⟩ := FnOK.of env_ratio_Abs Tryd.func26 (by kernel_rfl) (by kernel_rfl) (of_decide_eq_true (by kernel_rfl)) (fun x y h => ⟨0, (ratio_Abs_eq 0 x.1).trans h⟩)

noncomputable def Γ_ratio_Make : Env := { T := T, Φ := fun i => bif Nat.beq i 19 then some ⟨.unit, (.pair tR .unit), [], S.ratio_Zero, none⟩ else bif Nat.beq i 23 then some ⟨(.pair (.sl (.int .u32)) (.pair (.sl (.int .u32)) .unit)), (.pair (.sl (.int .u32)) .unit), [], S.digits_Gcd, none⟩ else bif Nat.beq i 45 then some ⟨(.pair (.sl (.int .u32)) (.pair (.sl (.int .u32)) .unit)), (.pair (.sl (.int .u32)) (.pair (.sl (.int .u32)) (.pair (.int .i64) .unit))), [], S.limbs_Div, none⟩ else bif Nat.beq i 64 then some ⟨(.pair tI .unit), (.pair (.int .i64) .unit), [], S.whole_Sign, none⟩ else none, ann := fun i => [], ord := fun i => [] }
theorem ratio_Make_eq (K : Nat) (num : Bool × (List Int) × Unit) (den : Bool × (List Int) × Unit) : exF Γ_ratio_Make K Tryd.f36 (.pair tI (.pair tI .unit)) (.pair tR (.pair (.int .i64) .unit)) [] (num, den, ()) = ratio_Make num den := by kernel_rfl
theorem env_ratio_Make : EnvOK Tryd.prog G Γ_ratio_Make := ⟨T_ok, ((phi_cons fn_ratio_Zero (phi_cons fn_digits_Gcd (phi_cons fn_limbs_Div (phi_cons fn_whole_Sign phi_nil)))) : PhiOK Tryd.prog G Γ_ratio_Make.Φ), fun _ _ h => (by cases h), mixed⟩
theorem fn_ratio_Make : FnOK Tryd.prog G 36 ⟨(.pair tI (.pair tI .unit)), (.pair tR (.pair (.int .i64) .unit)), [], S.ratio_Make, none⟩ := FnOK.of env_ratio_Make Tryd.func36 (by kernel_rfl) (by kernel_rfl) (of_decide_eq_true (by kernel_rfl)) (fun x y h => ⟨0, (ratio_Make_eq 0 x.1 x.2.1).trans h⟩)

noncomputable def Γ_whole_Of : Env := { T := T, Φ := fun i => bif Nat.beq i 24 then some ⟨(.pair (.int .u64) .unit), (.pair (.sl (.int .u32)) .unit), [], S.limbs_Of, none⟩ else bif Nat.beq i 62 then some ⟨tI, (.pair tI .unit), [], S.whole_of, none⟩ else none, ann := fun i => [], ord := fun i => [] }
theorem whole_Of_eq (K : Nat) (n : Int) : exF Γ_whole_Of K Tryd.f52 (.pair (.int .i64) .unit) (.pair tI .unit) [] (n, ()) = whole_Of n := by kernel_rfl
theorem env_whole_Of : EnvOK Tryd.prog G Γ_whole_Of := ⟨T_ok, ((phi_cons fn_limbs_Of (phi_cons fn_whole_of phi_nil)) : PhiOK Tryd.prog G Γ_whole_Of.Φ), fun _ _ h => (by cases h), mixed⟩
theorem fn_whole_Of : FnOK Tryd.prog G 52 ⟨(.pair (.int .i64) .unit), (.pair tI .unit), [], S.whole_Of, none⟩ := FnOK.of env_whole_Of Tryd.func52 (by kernel_rfl) (by kernel_rfl) (of_decide_eq_true (by kernel_rfl)) (fun x y h => ⟨0, (whole_Of_eq 0 x.1).trans h⟩)

noncomputable def Γ_ratio_Of : Env := { T := T, Φ := fun i => bif Nat.beq i 36 then some ⟨(.pair tI (.pair tI .unit)), (.pair tR (.pair (.int .i64) .unit)), [], S.ratio_Make, none⟩ else bif Nat.beq i 52 then some ⟨(.pair (.int .i64) .unit), (.pair tI .unit), [], S.whole_Of, none⟩ else none, ann := fun i => [], ord := fun i => [] }
theorem ratio_Of_eq (K : Nat) (num : Int) (den : Int) : exF Γ_ratio_Of K Tryd.f27 (.pair (.int .i64) (.pair (.int .i64) .unit)) (.pair tR .unit) [] (num, den, ()) = ratio_Of num den := by kernel_rfl
theorem env_ratio_Of : EnvOK Tryd.prog G Γ_ratio_Of := ⟨T_ok, ((phi_cons fn_ratio_Make (phi_cons fn_whole_Of phi_nil)) : PhiOK Tryd.prog G Γ_ratio_Of.Φ), fun _ _ h => (by cases h), mixed⟩
theorem fn_ratio_Of : FnOK Tryd.prog G 27 ⟨(.pair (.int .i64) (.pair (.int .i64) .unit)), (.pair tR .unit), [], S.ratio_Of, none⟩ := FnOK.of env_ratio_Of Tryd.func27 (by kernel_rfl) (by kernel_rfl) (of_decide_eq_true (by kernel_rfl)) (fun x y h => ⟨0, (ratio_Of_eq 0 x.1 x.2.1).trans h⟩)

noncomputable def Γ_vec_each : Env := { T := T, Φ := fun i => none, ann := fun i => bif Nat.beq i 5 then [(0, .c (.data tR)), (1, .c (.data tR)), (2, .c .sc), (8, .c (.own 100 39 tR)), (21, .c .sc), (22, .c .sc)] else [], ord := fun i => bif Nat.beq i 7 then [0, 1, 2, 3, 4, 5, 6, 7, 8, 9, 10, 11, 12, 13, 14, 15] else [] }
noncomputable def vec_each_c : Code := (Tryd.f53.body).getD .skip
noncomputable def vec_each_fin := finish Γ_vec_each Tryd.f53.results.toList (.pair (.sl tR) (.pair (.int .i64) .unit)) []
noncomputable def vec_each_mk0 (a : List dR) (b : List dR) (of : ((dR × dR × Unit) → Option (dR × Int × Unit))) (out : List dR) (t21 : Int) (t22 : Int) : St := { t := (upd (upd (upd (upd (upd (upd (fun _ => .undef) 0 (.one (.sl tR a))) 1 (.one (.sl tR b))) 2 (.one (.fn (.pair tR (.pair tR .unit)) (.pair tR (.pair (.int .i64) .unit)) of))) 8 (.one (.own 100))) 21 (.one (.int .i64 t21))) 22 (.one (.int .i64 t22))), m := (upd (upd (fun _ => .free) 0 .held) 100 (.row true 39 tR out)), nx := 1000000, n := 47 }
theorem vec_each_loop0 (K : Nat) : ∀ (n : Nat) (a : List dR) (b : List dR) (of : ((dR × dR × Unit) → Option (dR × Int × Unit))) (out : List dR) (t21 : Int) (t22 : Int), loopAt Γ_vec_each K [.r, .r, .r, .l, .r, .b] vec_each_c [] vec_each_fin (fun _ _ => none) vec_each_fin n (vec_each_mk0 a b of out t21 t22) = vec_each_l0 K n a b of out t21 t22 := by
  intro n
  induction n with
  | zero => intro a b of out t21 t22; kernel_rfl
  | succ n ih =>
    intro a b of out t21 t22
    have e : loopAt Γ_vec_each K [.r, .r, .r, .l, .r, .b] vec_each_c [] vec_each_fin (fun _ _ => none) vec_each_fin (n + 1) (vec_each_mk0 a b of out t21 t22) = vec_each_s0 (fun (a : List dR) (b : List dR) (of : ((dR × dR × Unit) → Option (dR × Int × Unit))) (out : List dR) (t21 : Int) (t22 : Int) => loopAt Γ_vec_each K [.r, .r, .r, .l, .r, .b] vec_each_c [] vec_each_fin (fun _ _ => none) vec_each_fin n (vec_each_mk0 a b of out t21 t22)) a b of out t21 t22 := by kernel_rfl
    rw [e]
    rw [show (fun (a : List dR) (b : List dR) (of : ((dR × dR × Unit) → Option (dR × Int × Unit))) (out : List dR) (t21 : Int) (t22 : Int) => loopAt Γ_vec_each K [.r, .r, .r, .l, .r, .b] vec_each_c [] vec_each_fin (fun _ _ => none) vec_each_fin n (vec_each_mk0 a b of out t21 t22)) = _ from funext fun a => funext fun b => funext fun of => funext fun out => funext fun t21 => funext fun t22 => ih a b of out t21 t22]
    rfl
theorem vec_each_eq (K : Nat) (a : List dR) (b : List dR) (of : ((dR × dR × Unit) → Option (dR × Int × Unit))) : exF Γ_vec_each K Tryd.f53 (.pair (.sl tR) (.pair (.sl tR) (.pair (.fn (.pair tR (.pair tR .unit)) (.pair tR (.pair (.int .i64) .unit))) .unit))) (.pair (.sl tR) (.pair (.int .i64) .unit)) [] (a, b, of, ()) = vec_each K a b of := by
  have e : exF Γ_vec_each K Tryd.f53 (.pair (.sl tR) (.pair (.sl tR) (.pair (.fn (.pair tR (.pair tR .unit)) (.pair tR (.pair (.int .i64) .unit))) .unit))) (.pair (.sl tR) (.pair (.int .i64) .unit)) [] (a, b, of, ()) = vec_each_b (fun (a : List dR) (b : List dR) (of : ((dR × dR × Unit) → Option (dR × Int × Unit))) (out : List dR) (t21 : Int) (t22 : Int) => loopAt Γ_vec_each K [.r, .r, .r, .l, .r, .b] vec_each_c [] vec_each_fin (fun _ _ => none) vec_each_fin K (vec_each_mk0 a b of out t21 t22)) a b of := by kernel_rfl
  rw [e]
  rw [show (fun (a : List dR) (b : List dR) (of : ((dR × dR × Unit) → Option (dR × Int × Unit))) (out : List dR) (t21 : Int) (t22 : Int) => loopAt Γ_vec_each K [.r, .r, .r, .l, .r, .b] vec_each_c [] vec_each_fin (fun _ _ => none) vec_each_fin K (vec_each_mk0 a b of out t21 t22)) = _ from funext fun a => funext fun b => funext fun of => funext fun out => funext fun t21 => funext fun t22 => vec_each_loop0 K K a b of out t21 t22]
  rfl
theorem env_vec_each : EnvOK Tryd.prog G Γ_vec_each := ⟨T_ok, (phi_nil : PhiOK Tryd.prog G Γ_vec_each.Φ), fun _ _ h => (by cases h), mixed⟩
theorem fn_vec_each : FnOK Tryd.prog G 53 ⟨(.pair (.sl tR) (.pair (.sl tR) (.pair (.fn (.pair tR (.pair tR .unit)) (.pair tR (.pair (.int .i64) .unit))) .unit))), (.pair (.sl tR) (.pair (.int .i64) .unit)), [], S.vec_each, none⟩ := FnOK.of env_vec_each Tryd.func53 (by kernel_rfl) (by kernel_rfl) (of_decide_eq_true (by kernel_rfl)) (fun x y h => ⟨100, (vec_each_eq 100 x.1 x.2.1 x.2.2.1).trans h⟩)

noncomputable def Γ_ratio_Mul : Env := { T := T, Φ := fun i => bif Nat.beq i 19 then some ⟨.unit, (.pair tR .unit), [], S.ratio_Zero, none⟩ else bif Nat.beq i 35 then some ⟨(.pair (.sl (.int .i64)) .unit), (.pair (.int .i64) .unit), [], S.ratio_first, none⟩ else bif Nat.beq i 36 then some ⟨(.pair tI (.pair tI .unit)), (.pair tR (.pair (.int .i64) .unit)), [], S.ratio_Make, none⟩ else bif Nat.beq i 48 then some ⟨(.pair tI (.pair tI .unit)), tY, [], S.whole_Mul, none⟩ else bif Nat.beq i 49 then some ⟨(.pair tR .unit), (.pair tI .unit), [], S.ratio_den, none⟩ else none, ann := fun i => [], ord := fun i => bif Nat.beq i 2 then [0, 2, 1, 3, 4, 5, 6, 7, 8, 9, 10] else [] }
theorem ratio_Mul_eq (K : Nat) (a : dI × (List Int) × Unit) (b : dI × (List Int) × Unit) : exF Γ_ratio_Mul K Tryd.f55 (.pair tR (.pair tR .unit)) (.pair tR (.pair (.int .i64) .unit)) [] (a, b, ()) = ratio_Mul a b := by kernel_rfl
theorem env_ratio_Mul : EnvOK Tryd.prog G Γ_ratio_Mul := ⟨T_ok, ((phi_cons fn_ratio_Zero (phi_cons fn_ratio_first (phi_cons fn_ratio_Make (phi_cons fn_whole_Mul (phi_cons fn_ratio_den phi_nil))))) : PhiOK Tryd.prog G Γ_ratio_Mul.Φ), fun _ _ h => (by cases h), mixed⟩
theorem fn_ratio_Mul : FnOK Tryd.prog G 55 ⟨(.pair tR (.pair tR .unit)), (.pair tR (.pair (.int .i64) .unit)), [], S.ratio_Mul, none⟩ := FnOK.of env_ratio_Mul Tryd.func55 (by kernel_rfl) (by kernel_rfl) (of_decide_eq_true (by kernel_rfl)) (fun x y h => ⟨0, (ratio_Mul_eq 0 x.1 x.2.1).trans h⟩)

noncomputable def Γ_vec_Scale_1 : Env := { T := T, Φ := fun i => bif Nat.beq i 55 then some ⟨(.pair tR (.pair tR .unit)), (.pair tR (.pair (.int .i64) .unit)), [], S.ratio_Mul, none⟩ else none, ann := fun i => [], ord := fun i => [] }
theorem vec_Scale_1_eq (K : Nat) (x : dI × (List Int) × Unit) (__ : dI × (List Int) × Unit) (t2 : dI × (List Int) × Unit) : exF Γ_vec_Scale_1 K Tryd.f54 (.pair tR (.pair tR (.pair (.ptr tR) .unit))) (.pair tR (.pair (.int .i64) .unit)) [] (x, __, t2, ()) = vec_Scale_1 x __ t2 := by kernel_rfl
theorem env_vec_Scale_1 : EnvOK Tryd.prog G Γ_vec_Scale_1 := ⟨T_ok, ((phi_cons fn_ratio_Mul phi_nil) : PhiOK Tryd.prog G Γ_vec_Scale_1.Φ), fun _ _ h => (by cases h), mixed⟩
theorem fn_vec_Scale_1 : FnOK Tryd.prog G 54 ⟨(.pair tR (.pair tR (.pair (.ptr tR) .unit))), (.pair tR (.pair (.int .i64) .unit)), [], S.vec_Scale_1, none⟩ := FnOK.of env_vec_Scale_1 Tryd.func54 (by kernel_rfl) (by kernel_rfl) (of_decide_eq_true (by kernel_rfl)) (fun x y h => ⟨0, (vec_Scale_1_eq 0 x.1 x.2.1 x.2.2.1).trans h⟩)

noncomputable def Γ_vec_Scale : Env := { T := T, Φ := fun i => bif Nat.beq i 53 then some ⟨(.pair (.sl tR) (.pair (.sl tR) (.pair (.fn (.pair tR (.pair tR .unit)) (.pair tR (.pair (.int .i64) .unit))) .unit))), (.pair (.sl tR) (.pair (.int .i64) .unit)), [], S.vec_each, none⟩ else bif Nat.beq i 54 then some ⟨(.pair tR (.pair tR (.pair (.ptr tR) .unit))), (.pair tR (.pair (.int .i64) .unit)), [], S.vec_Scale_1, none⟩ else none, ann := fun i => [], ord := fun i => [] }
theorem vec_Scale_eq (K : Nat) (a : List dR) (by_ : dI × (List Int) × Unit) : exF Γ_vec_Scale K Tryd.f28 (.pair (.sl tR) (.pair tR .unit)) (.pair (.sl tR) (.pair (.int .i64) .unit)) [] (a, by_, ()) = vec_Scale a by_ := by kernel_rfl
theorem env_vec_Scale : EnvOK Tryd.prog G Γ_vec_Scale := ⟨T_ok, ((phi_cons fn_vec_each (phi_cons fn_vec_Scale_1 phi_nil)) : PhiOK Tryd.prog G Γ_vec_Scale.Φ), fun _ _ h => (by cases h), mixed⟩
theorem fn_vec_Scale : FnOK Tryd.prog G 28 ⟨(.pair (.sl tR) (.pair tR .unit)), (.pair (.sl tR) (.pair (.int .i64) .unit)), [], S.vec_Scale, none⟩ := FnOK.of env_vec_Scale Tryd.func28 (by kernel_rfl) (by kernel_rfl) (of_decide_eq_true (by kernel_rfl)) (fun x y h => ⟨0, (vec_Scale_eq 0 x.1 x.2.1).trans h⟩)

noncomputable def Γ_limbs_Add : Env := { T := T, Φ := fun i => bif Nat.beq i 86 then some ⟨(.pair (.sl (.int .u32)) .unit), (.pair (.sl (.int .u32)) (.pair (.int .i64) .unit)), [], S.limbs_fits, none⟩ else none, ann := fun i => bif Nat.beq i 6 then [(0, .c (.data (.int .u32))), (1, .c (.data (.int .u32))), (6, .c (.own 100 83 (.int .u32))), (7, .c .sc), (21, .c (.data (.int .u32))), (22, .c .sc), (23, .c .sc)] else [], ord := fun i => [] }
noncomputable def limbs_Add_c : Code := (Tryd.f78.body).getD .skip
noncomputable def limbs_Add_fin := finish Γ_limbs_Add Tryd.f78.results.toList (.pair (.sl (.int .u32)) (.pair (.int .i64) .unit)) []
noncomputable def limbs_Add_mk0 (a : List Int) (b : List Int) (out : List Int) (carry : Int) (t21 : List Int) (t22 : Int) (t23 : Int) : St := { t := (upd (upd (upd (upd (upd (upd (upd (fun _ => .undef) 0 (.one (.sl (.int .u32) a))) 1 (.one (.sl (.int .u32) b))) 6 (.one (.own 100))) 7 (.one (.int .u64 carry))) 21 (.one (.sl (.int .u32) t21))) 22 (.one (.int .i64 t22))) 23 (.one (.int .i64 t23))), m := (upd (upd (fun _ => .free) 0 .held) 100 (.row true 83 (.int .u32) out)), nx := 1000000, n := 61 }
theorem limbs_Add_loop0 (K : Nat) : ∀ (n : Nat) (a : List Int) (b : List Int) (out : List Int) (carry : Int) (t21 : List Int) (t22 : Int) (t23 : Int), loopAt Γ_limbs_Add K [.r, .r, .r, .r, .l, .r, .b] limbs_Add_c [] limbs_Add_fin (fun _ _ => none) limbs_Add_fin n (limbs_Add_mk0 a b out carry t21 t22 t23) = limbs_Add_l0 K n a b out carry t21 t22 t23 := by
  intro n
  induction n with
  | zero => intro a b out carry t21 t22 t23; kernel_rfl
  | succ n ih =>
    intro a b out carry t21 t22 t23
    have e : loopAt Γ_limbs_Add K [.r, .r, .r, .r, .l, .r, .b] limbs_Add_c [] limbs_Add_fin (fun _ _ => none) limbs_Add_fin (n + 1) (limbs_Add_mk0 a b out carry t21 t22 t23) = limbs_Add_s0 (fun (a : List Int) (b : List Int) (out : List Int) (carry : Int) (t21 : List Int) (t22 : Int) (t23 : Int) => loopAt Γ_limbs_Add K [.r, .r, .r, .r, .l, .r, .b] limbs_Add_c [] limbs_Add_fin (fun _ _ => none) limbs_Add_fin n (limbs_Add_mk0 a b out carry t21 t22 t23)) a b out carry t21 t22 t23 := by kernel_rfl
    rw [e]
    rw [show (fun (a : List Int) (b : List Int) (out : List Int) (carry : Int) (t21 : List Int) (t22 : Int) (t23 : Int) => loopAt Γ_limbs_Add K [.r, .r, .r, .r, .l, .r, .b] limbs_Add_c [] limbs_Add_fin (fun _ _ => none) limbs_Add_fin n (limbs_Add_mk0 a b out carry t21 t22 t23)) = _ from funext fun a => funext fun b => funext fun out => funext fun carry => funext fun t21 => funext fun t22 => funext fun t23 => ih a b out carry t21 t22 t23]
    rfl
theorem limbs_Add_eq (K : Nat) (a : List Int) (b : List Int) : exF Γ_limbs_Add K Tryd.f78 (.pair (.sl (.int .u32)) (.pair (.sl (.int .u32)) .unit)) (.pair (.sl (.int .u32)) (.pair (.int .i64) .unit)) [] (a, b, ()) = limbs_Add K a b := by
  have e : exF Γ_limbs_Add K Tryd.f78 (.pair (.sl (.int .u32)) (.pair (.sl (.int .u32)) .unit)) (.pair (.sl (.int .u32)) (.pair (.int .i64) .unit)) [] (a, b, ()) = limbs_Add_b (fun (a : List Int) (b : List Int) (out : List Int) (carry : Int) (t21 : List Int) (t22 : Int) (t23 : Int) => loopAt Γ_limbs_Add K [.r, .r, .r, .r, .l, .r, .b] limbs_Add_c [] limbs_Add_fin (fun _ _ => none) limbs_Add_fin K (limbs_Add_mk0 a b out carry t21 t22 t23)) a b := by kernel_rfl
  rw [e]
  rw [show (fun (a : List Int) (b : List Int) (out : List Int) (carry : Int) (t21 : List Int) (t22 : Int) (t23 : Int) => loopAt Γ_limbs_Add K [.r, .r, .r, .r, .l, .r, .b] limbs_Add_c [] limbs_Add_fin (fun _ _ => none) limbs_Add_fin K (limbs_Add_mk0 a b out carry t21 t22 t23)) = _ from funext fun a => funext fun b => funext fun out => funext fun carry => funext fun t21 => funext fun t22 => funext fun t23 => limbs_Add_loop0 K K a b out carry t21 t22 t23]
  rfl
theorem env_limbs_Add : EnvOK Tryd.prog G Γ_limbs_Add := ⟨T_ok, ((phi_cons fn_limbs_fits phi_nil) : PhiOK Tryd.prog G Γ_limbs_Add.Φ), fun _ _ h => (by cases h), mixed⟩
theorem fn_limbs_Add : FnOK Tryd.prog G 78 ⟨(.pair (.sl (.int .u32)) (.pair (.sl (.int .u32)) .unit)), (.pair (.sl (.int .u32)) (.pair (.int .i64) .unit)), [], S.limbs_Add, none⟩ := FnOK.of env_limbs_Add Tryd.func78 (by kernel_rfl) (by kernel_rfl) (of_decide_eq_true (by kernel_rfl)) (fun x y h => by obtain ⟨K, hK⟩ := limbs_Add_ok x y h; exact ⟨K, (limbs_Add_eq K x.1 x.2.1).trans hK⟩)

noncomputable def Γ_limbs_Sub : Env := { T := T, Φ := fun i => bif Nat.beq i 22 then some ⟨(.pair (.sl (.int .u32)) (.pair (.sl (.int .u32)) .unit)), (.pair (.int .i64) .unit), [], S.limbs_Compare, none⟩ else bif Nat.beq i 86 then some ⟨(.pair (.sl (.int .u32)) .unit), (.pair (.sl (.int .u32)) (.pair (.int .i64) .unit)), [], S.limbs_fits, none⟩ else none, ann := fun i => bif Nat.beq i 6 then [(1, .c (.data (.int .u32))), (6, .c (.own 100 83 (.int .u32))), (7, .c .sc), (19, .c (.data (.int .u32))), (20, .c .sc), (21, .c .sc)] else [], ord := fun i => [] }
noncomputable def limbs_Sub_c : Code := (Tryd.f87.body).getD .skip
noncomputable def limbs_Sub_fin := finish Γ_limbs_Sub Tryd.f87.results.toList (.pair (.sl (.int .u32)) (.pair (.int .i64) .unit)) []
noncomputable def limbs_Sub_mk0 (b : List Int) (out : List Int) (owed : Int) (t19 : List Int) (t20 : Int) (t21 : Int) : St := { t := (upd (upd (upd (upd (upd (upd (fun _ => .undef) 1 (.one (.sl (.int .u32) b))) 6 (.one (.own 100))) 7 (.one (.int .u64 owed))) 19 (.one (.sl (.int .u32) t19))) 20 (.one (.int .i64 t20))) 21 (.one (.int .i64 t21))), m := (upd (upd (fun _ => .free) 0 .held) 100 (.row true 83 (.int .u32) out)), nx := 1000000, n := 54 }
theorem limbs_Sub_loop0 (K : Nat) : ∀ (n : Nat) (b : List Int) (out : List Int) (owed : Int) (t19 : List Int) (t20 : Int) (t21 : Int), loopAt Γ_limbs_Sub K [.r, .r, .r, .r, .l, .r, .b] limbs_Sub_c [] limbs_Sub_fin (fun _ _ => none) limbs_Sub_fin n (limbs_Sub_mk0 b out owed t19 t20 t21) = limbs_Sub_l0 K n b out owed t19 t20 t21 := by
  intro n
  induction n with
  | zero => intro b out owed t19 t20 t21; kernel_rfl
  | succ n ih =>
    intro b out owed t19 t20 t21
    have e : loopAt Γ_limbs_Sub K [.r, .r, .r, .r, .l, .r, .b] limbs_Sub_c [] limbs_Sub_fin (fun _ _ => none) limbs_Sub_fin (n + 1) (limbs_Sub_mk0 b out owed t19 t20 t21) = limbs_Sub_s0 (fun (b : List Int) (out : List Int) (owed : Int) (t19 : List Int) (t20 : Int) (t21 : Int) => loopAt Γ_limbs_Sub K [.r, .r, .r, .r, .l, .r, .b] limbs_Sub_c [] limbs_Sub_fin (fun _ _ => none) limbs_Sub_fin n (limbs_Sub_mk0 b out owed t19 t20 t21)) b out owed t19 t20 t21 := by kernel_rfl
    rw [e]
    rw [show (fun (b : List Int) (out : List Int) (owed : Int) (t19 : List Int) (t20 : Int) (t21 : Int) => loopAt Γ_limbs_Sub K [.r, .r, .r, .r, .l, .r, .b] limbs_Sub_c [] limbs_Sub_fin (fun _ _ => none) limbs_Sub_fin n (limbs_Sub_mk0 b out owed t19 t20 t21)) = _ from funext fun b => funext fun out => funext fun owed => funext fun t19 => funext fun t20 => funext fun t21 => ih b out owed t19 t20 t21]
    rfl
theorem limbs_Sub_eq (K : Nat) (a : List Int) (b : List Int) : exF Γ_limbs_Sub K Tryd.f87 (.pair (.sl (.int .u32)) (.pair (.sl (.int .u32)) .unit)) (.pair (.sl (.int .u32)) (.pair (.int .i64) .unit)) [] (a, b, ()) = limbs_Sub K a b := by
  have e : exF Γ_limbs_Sub K Tryd.f87 (.pair (.sl (.int .u32)) (.pair (.sl (.int .u32)) .unit)) (.pair (.sl (.int .u32)) (.pair (.int .i64) .unit)) [] (a, b, ()) = limbs_Sub_b (fun (b : List Int) (out : List Int) (owed : Int) (t19 : List Int) (t20 : Int) (t21 : Int) => loopAt Γ_limbs_Sub K [.r, .r, .r, .r, .l, .r, .b] limbs_Sub_c [] limbs_Sub_fin (fun _ _ => none) limbs_Sub_fin K (limbs_Sub_mk0 b out owed t19 t20 t21)) a b := by kernel_rfl
  rw [e]
  rw [show (fun (b : List Int) (out : List Int) (owed : Int) (t19 : List Int) (t20 : Int) (t21 : Int) => loopAt Γ_limbs_Sub K [.r, .r, .r, .r, .l, .r, .b] limbs_Sub_c [] limbs_Sub_fin (fun _ _ => none) limbs_Sub_fin K (limbs_Sub_mk0 b out owed t19 t20 t21)) = _ from funext fun b => funext fun out => funext fun owed => funext fun t19 => funext fun t20 => funext fun t21 => limbs_Sub_loop0 K K b out owed t19 t20 t21]
  rfl
theorem env_limbs_Sub : EnvOK Tryd.prog G Γ_limbs_Sub := ⟨T_ok, ((phi_cons fn_limbs_Compare (phi_cons fn_limbs_fits phi_nil)) : PhiOK Tryd.prog G Γ_limbs_Sub.Φ), fun _ _ h => (by cases h), mixed⟩
theorem fn_limbs_Sub : FnOK Tryd.prog G 87 ⟨(.pair (.sl (.int .u32)) (.pair (.sl (.int .u32)) .unit)), (.pair (.sl (.int .u32)) (.pair (.int .i64) .unit)), [], S.limbs_Sub, none⟩ := FnOK.of env_limbs_Sub Tryd.func87 (by kernel_rfl) (by kernel_rfl) (of_decide_eq_true (by kernel_rfl)) (fun x y h => by obtain ⟨K, hK⟩ := limbs_Sub_ok x y h; exact ⟨K, (limbs_Sub_eq K x.1 x.2.1).trans hK⟩)

noncomputable def Γ_whole_Add : Env := { T := T, Φ := fun i => bif Nat.beq i 22 then some ⟨(.pair (.sl (.int .u32)) (.pair (.sl (.int .u32)) .unit)), (.pair (.int .i64) .unit), [], S.limbs_Compare, none⟩ else bif Nat.beq i 62 then some ⟨tI, (.pair tI .unit), [], S.whole_of, none⟩ else bif Nat.beq i 78 then some ⟨(.pair (.sl (.int .u32)) (.pair (.sl (.int .u32)) .unit)), (.pair (.sl (.int .u32)) (.pair (.int .i64) .unit)), [], S.limbs_Add, none⟩ else bif Nat.beq i 87 then some ⟨(.pair (.sl (.int .u32)) (.pair (.sl (.int .u32)) .unit)), (.pair (.sl (.int .u32)) (.pair (.int .i64) .unit)), [], S.limbs_Sub, none⟩ else none, ann := fun i => [], ord := fun i => [] }
theorem whole_Add_eq (K : Nat) (a : Bool × (List Int) × Unit) (b : Bool × (List Int) × Unit) : exF Γ_whole_Add K Tryd.f71 (.pair tI (.pair tI .unit)) tY [] (a, b, ()) = whole_Add a b := by kernel_rfl
theorem env_whole_Add : EnvOK Tryd.prog G Γ_whole_Add := ⟨T_ok, ((phi_cons fn_limbs_Compare (phi_cons fn_whole_of (phi_cons fn_limbs_Add (phi_cons fn_limbs_Sub phi_nil)))) : PhiOK Tryd.prog G Γ_whole_Add.Φ), fun _ _ h => (by cases h), mixed⟩
theorem fn_whole_Add : FnOK Tryd.prog G 71 ⟨(.pair tI (.pair tI .unit)), tY, [], S.whole_Add, none⟩ := FnOK.of env_whole_Add Tryd.func71 (by kernel_rfl) (by kernel_rfl) (of_decide_eq_true (by kernel_rfl)) (fun x y h => ⟨0, (whole_Add_eq 0 x.1 x.2.1).trans h⟩)

noncomputable def Γ_ratio_Add : Env := { T := T, Φ := fun i => bif Nat.beq i 19 then some ⟨.unit, (.pair tR .unit), [], S.ratio_Zero, none⟩ else bif Nat.beq i 35 then some ⟨(.pair (.sl (.int .i64)) .unit), (.pair (.int .i64) .unit), [], S.ratio_first, none⟩ else bif Nat.beq i 36 then some ⟨(.pair tI (.pair tI .unit)), (.pair tR (.pair (.int .i64) .unit)), [], S.ratio_Make, none⟩ else bif Nat.beq i 48 then some ⟨(.pair tI (.pair tI .unit)), tY, [], S.whole_Mul, none⟩ else bif Nat.beq i 49 then some ⟨(.pair tR .unit), (.pair tI .unit), [], S.ratio_den, none⟩ else bif Nat.beq i 71 then some ⟨(.pair tI (.pair tI .unit)), tY, [], S.whole_Add, none⟩ else none, ann := fun i => [], ord := fun i => bif Nat.beq i 1 then [0, 1, 2, 3, 4, 5, 6, 7, 8, 9, 10] else bif Nat.beq i 2 then [0, 1, 2, 3, 4, 5, 6, 7, 8, 9, 10] else bif Nat.beq i 3 then [0, 2, 1, 3, 4, 5, 6, 7, 8, 9, 10] else [] }
theorem ratio_Add_eq (K : Nat) (a : dI × (List Int) × Unit) (b : dI × (List Int) × Unit) : exF Γ_ratio_Add K Tryd.f56 (.pair tR (.pair tR .unit)) (.pair tR (.pair (.int .i64) .unit)) [] (a, b, ()) = ratio_Add a b := by kernel_rfl
theorem env_ratio_Add : EnvOK Tryd.prog G Γ_ratio_Add := ⟨T_ok, ((phi_cons fn_ratio_Zero (phi_cons fn_ratio_first (phi_cons fn_ratio_Make (phi_cons fn_whole_Mul (phi_cons fn_ratio_den (phi_cons fn_whole_Add phi_nil)))))) : PhiOK Tryd.prog G Γ_ratio_Add.Φ), fun _ _ h => (by cases h), mixed⟩
theorem fn_ratio_Add : FnOK Tryd.prog G 56 ⟨(.pair tR (.pair tR .unit)), (.pair tR (.pair (.int .i64) .unit)), [], S.ratio_Add, none⟩ := FnOK.of env_ratio_Add Tryd.func56 (by kernel_rfl) (by kernel_rfl) (of_decide_eq_true (by kernel_rfl)) (fun x y h => ⟨0, (ratio_Add_eq 0 x.1 x.2.1).trans h⟩)

noncomputable def Γ_vec_Add : Env := { T := T, Φ := fun i => bif Nat.beq i 53 then some ⟨(.pair (.sl tR) (.pair (.sl tR) (.pair (.fn (.pair tR (.pair tR .unit)) (.pair tR (.pair (.int .i64) .unit))) .unit))), (.pair (.sl tR) (.pair (.int .i64) .unit)), [], S.vec_each, none⟩ else bif Nat.beq i 56 then some ⟨(.pair tR (.pair tR .unit)), (.pair tR (.pair (.int .i64) .unit)), [], S.ratio_Add, none⟩ else none, ann := fun i => [], ord := fun i => [] }
theorem vec_Add_eq (K : Nat) (a : List dR) (b : List dR) : exF Γ_vec_Add K Tryd.f29 (.pair (.sl tR) (.pair (.sl tR) .unit)) (.pair (.sl tR) (.pair (.int .i64) .unit)) [] (a, b, ()) = vec_Add a b := by kernel_rfl
theorem env_vec_Add : EnvOK Tryd.prog G Γ_vec_Add := ⟨T_ok, ((phi_cons fn_vec_each (phi_cons fn_ratio_Add phi_nil)) : PhiOK Tryd.prog G Γ_vec_Add.Φ), fun _ _ h => (by cases h), mixed⟩
theorem fn_vec_Add : FnOK Tryd.prog G 29 ⟨(.pair (.sl tR) (.pair (.sl tR) .unit)), (.pair (.sl tR) (.pair (.int .i64) .unit)), [], S.vec_Add, none⟩ := FnOK.of env_vec_Add Tryd.func29 (by kernel_rfl) (by kernel_rfl) (of_decide_eq_true (by kernel_rfl)) (fun x y h => ⟨0, (vec_Add_eq 0 x.1 x.2.1).trans h⟩)

noncomputable def Γ_model_Point : Env := { T := T, Φ := fun i => bif Nat.beq i 25 then some ⟨(.pair tR (.pair tR .unit)), (.pair (.int .i64) (.pair (.int .i64) .unit)), [], S.ratio_Compare, none⟩ else bif Nat.beq i 26 then some ⟨(.pair tR .unit), (.pair tR .unit), [], S.ratio_Abs, none⟩ else bif Nat.beq i 27 then some ⟨(.pair (.int .i64) (.pair (.int .i64) .unit)), (.pair tR .unit), [], S.ratio_Of, none⟩ else bif Nat.beq i 28 then some ⟨(.pair (.sl tR) (.pair tR .unit)), (.pair (.sl tR) (.pair (.int .i64) .unit)), [], S.vec_Scale, none⟩ else bif Nat.beq i 29 then some ⟨(.pair (.sl tR) (.pair (.sl tR) .unit)), (.pair (.sl tR) (.pair (.int .i64) .unit)), [], S.vec_Add, none⟩ else none, ann := fun i => bif Nat.beq i 6 then [(1, .c (.data tR)), (6, .c (.data tR)), (28, .c (.data (.sl tR))), (29, .c .sc), (30, .c .sc)] else [], ord := fun i => [] }
noncomputable def model_Point_c : Code := (Tryd.f8.body).getD .skip
noncomputable def model_Point_fin := finish Γ_model_Point Tryd.f8.results.toList (.pair (.sl tR) (.pair (.int .i64) .unit)) []
noncomputable def model_Point_mk0 (by_ : List dR) (out : List dR) (t28 : List (List dR)) (t29 : Int) (t30 : Int) : St := { t := (upd (upd (upd (upd (upd (fun _ => .undef) 1 (.one (.sl tR by_))) 6 (.one (.sl tR out))) 28 (.one (.sl (.sl tR) t28))) 29 (.one (.int .i64 t29))) 30 (.one (.int .i64 t30))), m := (upd (fun _ => .free) 0 .held), nx := 1000000, n := 74 }
theorem model_Point_loop0 (K : Nat) : ∀ (n : Nat) (by_ : List dR) (out : List dR) (t28 : List (List dR)) (t29 : Int) (t30 : Int), loopAt Γ_model_Point K [.r, .r, .r, .r, .l, .r, .b] model_Point_c [] model_Point_fin (fun _ _ => none) model_Point_fin n (model_Point_mk0 by_ out t28 t29 t30) = model_Point_l0 K n by_ out t28 t29 t30 := by
  intro n
  induction n with
  | zero => intro by_ out t28 t29 t30; kernel_rfl
  | succ n ih =>
    intro by_ out t28 t29 t30
    have e : loopAt Γ_model_Point K [.r, .r, .r, .r, .l, .r, .b] model_Point_c [] model_Point_fin (fun _ _ => none) model_Point_fin (n + 1) (model_Point_mk0 by_ out t28 t29 t30) = model_Point_s0 (fun (by_ : List dR) (out : List dR) (t28 : List (List dR)) (t29 : Int) (t30 : Int) => loopAt Γ_model_Point K [.r, .r, .r, .r, .l, .r, .b] model_Point_c [] model_Point_fin (fun _ _ => none) model_Point_fin n (model_Point_mk0 by_ out t28 t29 t30)) by_ out t28 t29 t30 := by kernel_rfl
    rw [e]
    rw [show (fun (by_ : List dR) (out : List dR) (t28 : List (List dR)) (t29 : Int) (t30 : Int) => loopAt Γ_model_Point K [.r, .r, .r, .r, .l, .r, .b] model_Point_c [] model_Point_fin (fun _ _ => none) model_Point_fin n (model_Point_mk0 by_ out t28 t29 t30)) = _ from funext fun by_ => funext fun out => funext fun t28 => funext fun t29 => funext fun t30 => ih by_ out t28 t29 t30]
    rfl
theorem model_Point_eq (K : Nat) (z : (List dR) × (List (List dR)) × Unit) (by_ : List dR) : exF Γ_model_Point K Tryd.f8 (.pair (.pair (.sl tR) (.pair (.sl (.sl tR)) .unit)) (.pair (.sl tR) .unit)) (.pair (.sl tR) (.pair (.int .i64) .unit)) [] (z, by_, ()) = model_Point K z by_ := by
  have e : exF Γ_model_Point K Tryd.f8 (.pair (.pair (.sl tR) (.pair (.sl (.sl tR)) .unit)) (.pair (.sl tR) .unit)) (.pair (.sl tR) (.pair (.int .i64) .unit)) [] (z, by_, ()) = model_Point_b (fun (by_ : List dR) (out : List dR) (t28 : List (List dR)) (t29 : Int) (t30 : Int) => loopAt Γ_model_Point K [.r, .r, .r, .r, .l, .r, .b] model_Point_c [] model_Point_fin (fun _ _ => none) model_Point_fin K (model_Point_mk0 by_ out t28 t29 t30)) z by_ := by kernel_rfl
  rw [e]
  rw [show (fun (by_ : List dR) (out : List dR) (t28 : List (List dR)) (t29 : Int) (t30 : Int) => loopAt Γ_model_Point K [.r, .r, .r, .r, .l, .r, .b] model_Point_c [] model_Point_fin (fun _ _ => none) model_Point_fin K (model_Point_mk0 by_ out t28 t29 t30)) = _ from funext fun by_ => funext fun out => funext fun t28 => funext fun t29 => funext fun t30 => model_Point_loop0 K K by_ out t28 t29 t30]
  rfl
theorem env_model_Point : EnvOK Tryd.prog G Γ_model_Point := ⟨T_ok, ((phi_cons fn_ratio_Compare (phi_cons fn_ratio_Abs (phi_cons fn_ratio_Of (phi_cons fn_vec_Scale (phi_cons fn_vec_Add phi_nil))))) : PhiOK Tryd.prog G Γ_model_Point.Φ), fun _ _ h => (by cases h), mixed⟩
theorem fn_model_Point : FnOK Tryd.prog G 8 ⟨(.pair (.pair (.sl tR) (.pair (.sl (.sl tR)) .unit)) (.pair (.sl tR) .unit)), (.pair (.sl tR) (.pair (.int .i64) .unit)), [], S.model_Point, none⟩ := FnOK.of env_model_Point Tryd.func8 (by kernel_rfl) (by kernel_rfl) (of_decide_eq_true (by kernel_rfl)) (fun x y h => ⟨100, (model_Point_eq 100 x.1 x.2.1).trans h⟩)

noncomputable def Γ_limbs_Small : Env := { T := T, Φ := fun i => none, ann := fun i => bif Nat.beq i 5 then [(4, .c .sc), (10, .c (.data (.int .u32))), (11, .c .sc), (12, .c .sc)] else [], ord := fun i => [] }
noncomputable def limbs_Small_c : Code := (Tryd.f57.body).getD .skip
noncomputable def limbs_Small_fin := finish Γ_limbs_Small Tryd.f57.results.toList (.pair (.int .u64) (.pair (.int .i64) .unit)) []
noncomputable def limbs_Small_mk0 (n2 : Int) (t10 : List Int) (t11 : Int) (t12 : Int) : St := { t := (upd (upd (upd (upd (fun _ => .undef) 4 (.one (.int .u64 n2))) 10 (.one (.sl (.int .u32) t10))) 11 (.one (.int .i64 t11))) 12 (.one (.int .i64 t12))), m := (upd (fun _ => .free) 0 .held), nx := 1000000, n := 26 }
theorem limbs_Small_loop0 (K : Nat) : ∀ (n : Nat) (n2 : Int) (t10 : List Int) (t11 : Int) (t12 : Int), loopAt Γ_limbs_Small K [.r, .r, .r, .l, .r, .b] limbs_Small_c [] limbs_Small_fin (fun _ _ => none) limbs_Small_fin n (limbs_Small_mk0 n2 t10 t11 t12) = limbs_Small_l0 K n n2 t10 t11 t12 := by
  intro n
  induction n with
  | zero => intro n2 t10 t11 t12; kernel_rfl
  | succ n ih =>
    intro n2 t10 t11 t12
    have e : loopAt Γ_limbs_Small K [.r, .r, .r, .l, .r, .b] limbs_Small_c [] limbs_Small_fin (fun _ _ => none) limbs_Small_fin (n + 1) (limbs_Small_mk0 n2 t10 t11 t12) = limbs_Small_s0 (fun (n2 : Int) (t10 : List Int) (t11 : Int) (t12 : Int) => loopAt Γ_limbs_Small K [.r, .r, .r, .l, .r, .b] limbs_Small_c [] limbs_Small_fin (fun _ _ => none) limbs_Small_fin n (limbs_Small_mk0 n2 t10 t11 t12)) n2 t10 t11 t12 := by kernel_rfl
    rw [e]
    rw [show (fun (n2 : Int) (t10 : List Int) (t11 : Int) (t12 : Int) => loopAt Γ_limbs_Small K [.r, .r, .r, .l, .r, .b] limbs_Small_c [] limbs_Small_fin (fun _ _ => none) limbs_Small_fin n (limbs_Small_mk0 n2 t10 t11 t12)) = _ from funext fun n2 => funext fun t10 => funext fun t11 => funext fun t12 => ih n2 t10 t11 t12]
    rfl
theorem limbs_Small_eq (K : Nat) (a : List Int) : exF Γ_limbs_Small K Tryd.f57 (.pair (.sl (.int .u32)) .unit) (.pair (.int .u64) (.pair (.int .i64) .unit)) [] (a, ()) = limbs_Small K a := by
  have e : exF Γ_limbs_Small K Tryd.f57 (.pair (.sl (.int .u32)) .unit) (.pair (.int .u64) (.pair (.int .i64) .unit)) [] (a, ()) = limbs_Small_b (fun (n2 : Int) (t10 : List Int) (t11 : Int) (t12 : Int) => loopAt Γ_limbs_Small K [.r, .r, .r, .l, .r, .b] limbs_Small_c [] limbs_Small_fin (fun _ _ => none) limbs_Small_fin K (limbs_Small_mk0 n2 t10 t11 t12)) a := by kernel_rfl
  rw [e]
  rw [show (fun (n2 : Int) (t10 : List Int) (t11 : Int) (t12 : Int) => loopAt Γ_limbs_Small K [.r, .r, .r, .l, .r, .b] limbs_Small_c [] limbs_Small_fin (fun _ _ => none) limbs_Small_fin K (limbs_Small_mk0 n2 t10 t11 t12)) = _ from funext fun n2 => funext fun t10 => funext fun t11 => funext fun t12 => limbs_Small_loop0 K K n2 t10 t11 t12]
  rfl
theorem env_limbs_Small : EnvOK Tryd.prog G Γ_limbs_Small := ⟨T_ok, (phi_nil : PhiOK Tryd.prog G Γ_limbs_Small.Φ), fun _ _ h => (by cases h), mixed⟩
theorem fn_limbs_Small : FnOK Tryd.prog G 57 ⟨(.pair (.sl (.int .u32)) .unit), (.pair (.int .u64) (.pair (.int .i64) .unit)), [], S.limbs_Small, none⟩ := FnOK.of env_limbs_Small Tryd.func57 (by kernel_rfl) (by kernel_rfl) (of_decide_eq_true (by kernel_rfl)) (fun x y h => by obtain ⟨K, hK⟩ := limbs_Small_ok x y h; exact ⟨K, (limbs_Small_eq K x.1).trans hK⟩)

noncomputable def Γ_slices_Reverse_s_byte_byte : Env := { T := T, Φ := fun i => none, ann := fun i => bif Nat.beq i 1 then [(0, .c .win), (2, .c .sc), (3, .c .sc)] else [], ord := fun i => bif Nat.beq i 3 then [0, 1, 2, 3, 4, 5, 6, 7, 8, 9, 10, 11, 12, 13, 14, 15] else [] }
noncomputable def slices_Reverse_s_byte_byte_c : Code := (Tryd.f58.body).getD .skip
noncomputable def slices_Reverse_s_byte_byte_fin := finishW Γ_slices_Reverse_s_byte_byte 5 Tryd.f58.results.toList (.pair (.sl (.int .u8)) .unit) []
noncomputable def slices_Reverse_s_byte_byte_mk0 (s : List Int) (off : Nat) (len : Nat) (i : Int) (j : Int) : St := { t := (upd (upd (upd (fun _ => .undef) 0 (.one (.sub 0 off len))) 2 (.one (.int .i64 i))) 3 (.one (.int .i64 j))), m := (upd (upd (fun _ => .free) 0 .held) 0 (.row true 5 (.int .u8) s)), nx := 1000000, n := 28 }
theorem slices_Reverse_s_byte_byte_loop0 (K : Nat) : ∀ (n : Nat) (s : List Int) (off : Nat) (len : Nat) (i : Int) (j : Int), loopAt Γ_slices_Reverse_s_byte_byte K [.r, .b] slices_Reverse_s_byte_byte_c [] slices_Reverse_s_byte_byte_fin (fun _ _ => none) slices_Reverse_s_byte_byte_fin n (slices_Reverse_s_byte_byte_mk0 s off len i j) = slices_Reverse_s_byte_byte_l0 K n s off len i j := by
  intro n
  induction n with
  | zero => intro s off len i j; kernel_rfl
  | succ n ih =>
    intro s off len i j
    have e : loopAt Γ_slices_Reverse_s_byte_byte K [.r, .b] slices_Reverse_s_byte_byte_c [] slices_Reverse_s_byte_byte_fin (fun _ _ => none) slices_Reverse_s_byte_byte_fin (n + 1) (slices_Reverse_s_byte_byte_mk0 s off len i j) = slices_Reverse_s_byte_byte_s0 (fun (s : List Int) (off : Nat) (len : Nat) (i : Int) (j : Int) => loopAt Γ_slices_Reverse_s_byte_byte K [.r, .b] slices_Reverse_s_byte_byte_c [] slices_Reverse_s_byte_byte_fin (fun _ _ => none) slices_Reverse_s_byte_byte_fin n (slices_Reverse_s_byte_byte_mk0 s off len i j)) s off len i j := by kernel_rfl
    rw [e]
    rw [show (fun (s : List Int) (off : Nat) (len : Nat) (i : Int) (j : Int) => loopAt Γ_slices_Reverse_s_byte_byte K [.r, .b] slices_Reverse_s_byte_byte_c [] slices_Reverse_s_byte_byte_fin (fun _ _ => none) slices_Reverse_s_byte_byte_fin n (slices_Reverse_s_byte_byte_mk0 s off len i j)) = _ from funext fun s => funext fun off => funext fun len => funext fun i => funext fun j => ih s off len i j]
    rfl
theorem slices_Reverse_s_byte_byte_eq (K : Nat) (s : List Int) (off : Int) (len : Int) : exW Γ_slices_Reverse_s_byte_byte K Tryd.f58 5 (.pair (.sl (.int .u8)) (.pair (.int .i64) (.pair (.int .i64) .unit))) (.pair (.sl (.int .u8)) .unit) [] (s, off, len, ()) = slices_Reverse_s_byte_byte K s off len := by
  have e : exW Γ_slices_Reverse_s_byte_byte K Tryd.f58 5 (.pair (.sl (.int .u8)) (.pair (.int .i64) (.pair (.int .i64) .unit))) (.pair (.sl (.int .u8)) .unit) [] (s, off, len, ()) = slices_Reverse_s_byte_byte_b (fun (s : List Int) (off : Nat) (len : Nat) (i : Int) (j : Int) => loopAt Γ_slices_Reverse_s_byte_byte K [.r, .b] slices_Reverse_s_byte_byte_c [] slices_Reverse_s_byte_byte_fin (fun _ _ => none) slices_Reverse_s_byte_byte_fin K (slices_Reverse_s_byte_byte_mk0 s off len i j)) s off len := by kernel_rfl
  rw [e]
  rw [show (fun (s : List Int) (off : Nat) (len : Nat) (i : Int) (j : Int) => loopAt Γ_slices_Reverse_s_byte_byte K [.r, .b] slices_Reverse_s_byte_byte_c [] slices_Reverse_s_byte_byte_fin (fun _ _ => none) slices_Reverse_s_byte_byte_fin K (slices_Reverse_s_byte_byte_mk0 s off len i j)) = _ from funext fun s => funext fun off => funext fun len => funext fun i => funext fun j => slices_Reverse_s_byte_byte_loop0 K K s off len i j]
  rfl
theorem env_slices_Reverse_s_byte_byte : EnvOK Tryd.prog G Γ_slices_Reverse_s_byte_byte := ⟨T_ok, (phi_nil : PhiOK Tryd.prog G Γ_slices_Reverse_s_byte_byte.Φ), fun _ _ h => (by cases h), mixed⟩
theorem fn_slices_Reverse_s_byte_byte : FnOK Tryd.prog G 58 ⟨(.pair (.sl (.int .u8)) (.pair (.int .i64) (.pair (.int .i64) .unit))), (.pair (.sl (.int .u8)) .unit), [], S.slices_Reverse_s_byte_byte, some 5⟩ := FnOK.ofW env_slices_Reverse_s_byte_byte Tryd.func58 (by kernel_rfl) (by kernel_rfl) (of_decide_eq_true (by kernel_rfl)) slices_Reverse_s_byte_byte_len (fun x y h => by obtain ⟨K, hK⟩ := slices_Reverse_s_byte_byte_ok x y h; exact ⟨K, (slices_Reverse_s_byte_byte_eq K x.1 x.2.1 x.2.2.1).trans hK⟩)

noncomputable def Γ_strings_trimLeftByte : Env := { T := T, Φ := fun i => none, ann := fun i => bif Nat.beq i 1 then [(0, .c .sc), (1, .c .sc)] else [], ord := fun i => [] }
noncomputable def strings_trimLeftByte_c : Code := (Tryd.f72.body).getD .skip
noncomputable def strings_trimLeftByte_fin := finish Γ_strings_trimLeftByte Tryd.f72.results.toList (.pair .str .unit) []
noncomputable def strings_trimLeftByte_mk0 (s : ByteArray) (c : Int) : St := { t := (upd (upd (fun _ => .undef) 0 (.one (.str s))) 1 (.one (.int .u8 c))), m := (upd (fun _ => .free) 0 .held), nx := 1000000, n := 17 }
theorem strings_trimLeftByte_loop0 (K : Nat) : ∀ (n : Nat) (s : ByteArray) (c : Int), loopAt Γ_strings_trimLeftByte K [.r, .l, .b] strings_trimLeftByte_c [] strings_trimLeftByte_fin (fun _ _ => none) strings_trimLeftByte_fin n (strings_trimLeftByte_mk0 s c) = strings_trimLeftByte_l0 K n s c := by
  intro n
  induction n with
  | zero => intro s c; kernel_rfl
  | succ n ih =>
    intro s c
    have e : loopAt Γ_strings_trimLeftByte K [.r, .l, .b] strings_trimLeftByte_c [] strings_trimLeftByte_fin (fun _ _ => none) strings_trimLeftByte_fin (n + 1) (strings_trimLeftByte_mk0 s c) = strings_trimLeftByte_s0 (fun (s : ByteArray) (c : Int) => loopAt Γ_strings_trimLeftByte K [.r, .l, .b] strings_trimLeftByte_c [] strings_trimLeftByte_fin (fun _ _ => none) strings_trimLeftByte_fin n (strings_trimLeftByte_mk0 s c)) s c := by kernel_rfl
    rw [e]
    rw [show (fun (s : ByteArray) (c : Int) => loopAt Γ_strings_trimLeftByte K [.r, .l, .b] strings_trimLeftByte_c [] strings_trimLeftByte_fin (fun _ _ => none) strings_trimLeftByte_fin n (strings_trimLeftByte_mk0 s c)) = _ from funext fun s => funext fun c => ih s c]
    rfl
theorem strings_trimLeftByte_eq (K : Nat) (s : ByteArray) (c : Int) : exF Γ_strings_trimLeftByte K Tryd.f72 (.pair .str (.pair (.int .u8) .unit)) (.pair .str .unit) [] (s, c, ()) = strings_trimLeftByte K s c := by
  have e : exF Γ_strings_trimLeftByte K Tryd.f72 (.pair .str (.pair (.int .u8) .unit)) (.pair .str .unit) [] (s, c, ()) = strings_trimLeftByte_b (fun (s : ByteArray) (c : Int) => loopAt Γ_strings_trimLeftByte K [.r, .l, .b] strings_trimLeftByte_c [] strings_trimLeftByte_fin (fun _ _ => none) strings_trimLeftByte_fin K (strings_trimLeftByte_mk0 s c)) s c := by kernel_rfl
  rw [e]
  rw [show (fun (s : ByteArray) (c : Int) => loopAt Γ_strings_trimLeftByte K [.r, .l, .b] strings_trimLeftByte_c [] strings_trimLeftByte_fin (fun _ _ => none) strings_trimLeftByte_fin K (strings_trimLeftByte_mk0 s c)) = _ from funext fun s => funext fun c => strings_trimLeftByte_loop0 K K s c]
  rfl
theorem env_strings_trimLeftByte : EnvOK Tryd.prog G Γ_strings_trimLeftByte := ⟨T_ok, (phi_nil : PhiOK Tryd.prog G Γ_strings_trimLeftByte.Φ), fun _ _ h => (by cases h), mixed⟩
theorem fn_strings_trimLeftByte : FnOK Tryd.prog G 72 ⟨(.pair .str (.pair (.int .u8) .unit)), (.pair .str .unit), [], S.strings_trimLeftByte, none⟩ := FnOK.of env_strings_trimLeftByte Tryd.func72 (by kernel_rfl) (by kernel_rfl) (of_decide_eq_true (by kernel_rfl)) (fun x y h => by obtain ⟨K, hK⟩ := strings_trimLeftByte_ok x y h; exact ⟨K, (strings_trimLeftByte_eq K x.1 x.2.1).trans hK⟩)

theorem fn_strings_makeASCIISet : FnOK Tryd.prog G 73 ⟨.unit, .unit, [], fun _ => none, none⟩ := FnOK.dead Tryd.func73 (by kernel_rfl) (by kernel_rfl)

noncomputable def Γ_strings_TrimLeft : Env := { T := T, Φ := fun i => bif Nat.beq i 72 then some ⟨(.pair .str (.pair (.int .u8) .unit)), (.pair .str .unit), [], S.strings_trimLeftByte, none⟩ else bif Nat.beq i 73 then some ⟨.unit, .unit, [], (fun _ => none), none⟩ else none, ann := fun i => [], ord := fun i => [] }
theorem strings_TrimLeft_eq (K : Nat) (s : ByteArray) (cutset : ByteArray) : exF Γ_strings_TrimLeft K Tryd.f59 (.pair .str (.pair .str .unit)) (.pair .str .unit) [] (s, cutset, ()) = strings_TrimLeft s cutset := by kernel_rfl
theorem env_strings_TrimLeft : EnvOK Tryd.prog G Γ_strings_TrimLeft := ⟨T_ok, ((phi_cons fn_strings_trimLeftByte (phi_cons fn_strings_makeASCIISet phi_nil)) : PhiOK Tryd.prog G Γ_strings_TrimLeft.Φ), fun _ _ h => (by cases h), mixed⟩
theorem fn_strings_TrimLeft : FnOK Tryd.prog G 59 ⟨(.pair .str (.pair .str .unit)), (.pair .str .unit), [], S.strings_TrimLeft, none⟩ := FnOK.of env_strings_TrimLeft Tryd.func59 (by kernel_rfl) (by kernel_rfl) (of_decide_eq_true (by kernel_rfl)) (fun x y h => ⟨0, (strings_TrimLeft_eq 0 x.1 x.2.1).trans h⟩)

noncomputable def Γ_digits_Text : Env := { T := T, Φ := fun i => bif Nat.beq i 24 then some ⟨(.pair (.int .u64) .unit), (.pair (.sl (.int .u32)) .unit), [], S.limbs_Of, none⟩ else bif Nat.beq i 45 then some ⟨(.pair (.sl (.int .u32)) (.pair (.sl (.int .u32)) .unit)), (.pair (.sl (.int .u32)) (.pair (.sl (.int .u32)) (.pair (.int .i64) .unit))), [], S.limbs_Div, none⟩ else bif Nat.beq i 57 then some ⟨(.pair (.sl (.int .u32)) .unit), (.pair (.int .u64) (.pair (.int .i64) .unit)), [], S.limbs_Small, none⟩ else bif Nat.beq i 58 then some ⟨(.pair (.sl (.int .u8)) (.pair (.int .i64) (.pair (.int .i64) .unit))), (.pair (.sl (.int .u8)) .unit), [], S.slices_Reverse_s_byte_byte, some 5⟩ else bif Nat.beq i 59 then some ⟨(.pair .str (.pair .str .unit)), (.pair .str .unit), [], S.strings_TrimLeft, none⟩ else none, ann := fun i => bif Nat.beq i 4 then [(0, .c (.data (.int .u32))), (3, .c (.own 100 5 (.int .u8)))] else bif Nat.beq i 8 then [(3, .c (.own 100 5 (.int .u8))), (4, .c (.data (.int .u32))), (7, .c .sc), (27, .c .sc)] else [], ord := fun i => [] }
noncomputable def digits_Text_c : Code := (Tryd.f31.body).getD .skip
noncomputable def digits_Text_fin := finish Γ_digits_Text Tryd.f31.results.toList (.pair .str .unit) []
noncomputable def digits_Text_mk0 (a : List Int) (out : List Int) : St := { t := (upd (upd (fun _ => .undef) 0 (.one (.sl (.int .u32) a))) 3 (.one (.own 100))), m := (upd (upd (fun _ => .free) 0 .held) 100 (.row true 5 (.int .u8) out)), nx := 1000000, n := 45 }
noncomputable def digits_Text_mk1 (out : List Int) (q : List Int) (n2 : Int) (t27 : Int) : St := { t := (upd (upd (upd (upd (fun _ => .undef) 3 (.one (.own 100))) 4 (.one (.sl (.int .u32) q))) 7 (.one (.int .u64 n2))) 27 (.one (.int .i64 t27))), m := (upd (upd (fun _ => .free) 0 .held) 100 (.row true 5 (.int .u8) out)), nx := 1000000, n := 45 }
theorem digits_Text_loop1 (K : Nat) (κ0 : St → Option (Den (.pair .str .unit))) : ∀ (n : Nat) (out : List Int) (q : List Int) (n2 : Int) (t27 : Int), loopAt Γ_digits_Text K [.r, .r, .r, .l, .b, .c, .r, .b, .r, .r, .l, .r, .b] digits_Text_c [fun st => mask [(0, .c (.data (.int .u32))), (3, .c (.own 100 5 (.int .u8)))] 1000000 st (κ0)] digits_Text_fin (fun _ _ => none) digits_Text_fin n (digits_Text_mk1 out q n2 t27) = digits_Text_l1 K (fun (a : List Int) (out : List Int) => κ0 (digits_Text_mk0 a out)) n out q n2 t27 := by
  intro n
  induction n with
  | zero => intro out q n2 t27; kernel_rfl
  | succ n ih =>
    intro out q n2 t27
    have e : loopAt Γ_digits_Text K [.r, .r, .r, .l, .b, .c, .r, .b, .r, .r, .l, .r, .b] digits_Text_c [fun st => mask [(0, .c (.data (.int .u32))), (3, .c (.own 100 5 (.int .u8)))] 1000000 st (κ0)] digits_Text_fin (fun _ _ => none) digits_Text_fin (n + 1) (digits_Text_mk1 out q n2 t27) = digits_Text_s1 (fun (a : List Int) (out : List Int) => κ0 (digits_Text_mk0 a out)) (fun (out : List Int) (q : List Int) (n2 : Int) (t27 : Int) => loopAt Γ_digits_Text K [.r, .r, .r, .l, .b, .c, .r, .b, .r, .r, .l, .r, .b] digits_Text_c [fun st => mask [(0, .c (.data (.int .u32))), (3, .c (.own 100 5 (.int .u8)))] 1000000 st (κ0)] digits_Text_fin (fun _ _ => none) digits_Text_fin n (digits_Text_mk1 out q n2 t27)) out q n2 t27 := by kernel_rfl
    rw [e]
    rw [show (fun (out : List Int) (q : List Int) (n2 : Int) (t27 : Int) => loopAt Γ_digits_Text K [.r, .r, .r, .l, .b, .c, .r, .b, .r, .r, .l, .r, .b] digits_Text_c [fun st => mask [(0, .c (.data (.int .u32))), (3, .c (.own 100 5 (.int .u8)))] 1000000 st (κ0)] digits_Text_fin (fun _ _ => none) digits_Text_fin n (digits_Text_mk1 out q n2 t27)) = _ from funext fun out => funext fun q => funext fun n2 => funext fun t27 => ih out q n2 t27]
    rfl
theorem digits_Text_loop0 (K : Nat) : ∀ (n : Nat) (a : List Int) (out : List Int), loopAt Γ_digits_Text K [.r, .r, .r, .l, .b] digits_Text_c [] digits_Text_fin (fun _ _ => none) digits_Text_fin n (digits_Text_mk0 a out) = digits_Text_l0 K n a out := by
  intro n
  induction n with
  | zero => intro a out; kernel_rfl
  | succ n ih =>
    intro a out
    have e : loopAt Γ_digits_Text K [.r, .r, .r, .l, .b] digits_Text_c [] digits_Text_fin (fun _ _ => none) digits_Text_fin (n + 1) (digits_Text_mk0 a out) = digits_Text_s0 (fun (out : List Int) (q : List Int) (n2 : Int) (t27 : Int) => loopAt Γ_digits_Text K [.r, .r, .r, .l, .b, .c, .r, .b, .r, .r, .l, .r, .b] digits_Text_c [fun st => mask [(0, .c (.data (.int .u32))), (3, .c (.own 100 5 (.int .u8)))] 1000000 st (loopAt Γ_digits_Text K [.r, .r, .r, .l, .b] digits_Text_c [] digits_Text_fin (fun _ _ => none) digits_Text_fin n)] digits_Text_fin (fun _ _ => none) digits_Text_fin K (digits_Text_mk1 out q n2 t27)) (fun (a : List Int) (out : List Int) => loopAt Γ_digits_Text K [.r, .r, .r, .l, .b] digits_Text_c [] digits_Text_fin (fun _ _ => none) digits_Text_fin n (digits_Text_mk0 a out)) a out := by kernel_rfl
    rw [e]
    rw [show (fun (out : List Int) (q : List Int) (n2 : Int) (t27 : Int) => loopAt Γ_digits_Text K [.r, .r, .r, .l, .b, .c, .r, .b, .r, .r, .l, .r, .b] digits_Text_c [fun st => mask [(0, .c (.data (.int .u32))), (3, .c (.own 100 5 (.int .u8)))] 1000000 st (loopAt Γ_digits_Text K [.r, .r, .r, .l, .b] digits_Text_c [] digits_Text_fin (fun _ _ => none) digits_Text_fin n)] digits_Text_fin (fun _ _ => none) digits_Text_fin K (digits_Text_mk1 out q n2 t27)) = _ from funext fun out => funext fun q => funext fun n2 => funext fun t27 => digits_Text_loop1 K (loopAt Γ_digits_Text K [.r, .r, .r, .l, .b] digits_Text_c [] digits_Text_fin (fun _ _ => none) digits_Text_fin n) K out q n2 t27]
    rw [show (fun (a : List Int) (out : List Int) => loopAt Γ_digits_Text K [.r, .r, .r, .l, .b] digits_Text_c [] digits_Text_fin (fun _ _ => none) digits_Text_fin n (digits_Text_mk0 a out)) = _ from funext fun a => funext fun out => ih a out]
    rfl
theorem digits_Text_eq (K : Nat) (a : List Int) : exF Γ_digits_Text K Tryd.f31 (.pair (.sl (.int .u32)) .unit) (.pair .str .unit) [] (a, ()) = digits_Text K a := by
  have e : exF Γ_digits_Text K Tryd.f31 (.pair (.sl (.int .u32)) .unit) (.pair .str .unit) [] (a, ()) = digits_Text_b (fun (a : List Int) (out : List Int) => loopAt Γ_digits_Text K [.r, .r, .r, .l, .b] digits_Text_c [] digits_Text_fin (fun _ _ => none) digits_Text_fin K (digits_Text_mk0 a out)) a := by kernel_rfl
  rw [e]
  rw [show (fun (a : List Int) (out : List Int) => loopAt Γ_digits_Text K [.r, .r, .r, .l, .b] digits_Text_c [] digits_Text_fin (fun _ _ => none) digits_Text_fin K (digits_Text_mk0 a out)) = _ from funext fun a => funext fun out => digits_Text_loop0 K K a out]
  rfl
theorem env_digits_Text : EnvOK Tryd.prog G Γ_digits_Text := ⟨T_ok, ((phi_cons fn_limbs_Of (phi_cons fn_limbs_Div (phi_cons fn_limbs_Small (phi_cons fn_slices_Reverse_s_byte_byte (phi_cons fn_strings_TrimLeft phi_nil))))) : PhiOK Tryd.prog G Γ_digits_Text.Φ), fun _ _ h => (by cases h), mixed⟩
theorem fn_digits_Text : FnOK Tryd.prog G 31 ⟨(.pair (.sl (.int .u32)) .unit), (.pair .str .unit), [], S.digits_Text, none⟩ := FnOK.of env_digits_Text Tryd.func31 (by kernel_rfl) (by kernel_rfl) (of_decide_eq_true (by kernel_rfl)) (fun x y h => by obtain ⟨K, hK⟩ := digits_Text_ok x y h; exact ⟨K, (digits_Text_eq K x.1).trans hK⟩)

noncomputable def Γ_whole_Text : Env := { T := T, Φ := fun i => bif Nat.beq i 31 then some ⟨(.pair (.sl (.int .u32)) .unit), (.pair .str .unit), [], S.digits_Text, none⟩ else none, ann := fun i => [], ord := fun i => [] }
theorem whole_Text_eq (K : Nat) (a : Bool × (List Int) × Unit) : exF Γ_whole_Text K Tryd.f30 (.pair tI .unit) (.pair .str .unit) [] (a, ()) = whole_Text a := by kernel_rfl
theorem env_whole_Text : EnvOK Tryd.prog G Γ_whole_Text := ⟨T_ok, ((phi_cons fn_digits_Text phi_nil) : PhiOK Tryd.prog G Γ_whole_Text.Φ), fun _ _ h => (by cases h), mixed⟩
theorem fn_whole_Text : FnOK Tryd.prog G 30 ⟨(.pair tI .unit), (.pair .str .unit), [], S.whole_Text, none⟩ := FnOK.of env_whole_Text Tryd.func30 (by kernel_rfl) (by kernel_rfl) (of_decide_eq_true (by kernel_rfl)) (fun x y h => ⟨0, (whole_Text_eq 0 x.1).trans h⟩)

noncomputable def Γ_ratio_Text : Env := { T := T, Φ := fun i => bif Nat.beq i 22 then some ⟨(.pair (.sl (.int .u32)) (.pair (.sl (.int .u32)) .unit)), (.pair (.int .i64) .unit), [], S.limbs_Compare, none⟩ else bif Nat.beq i 24 then some ⟨(.pair (.int .u64) .unit), (.pair (.sl (.int .u32)) .unit), [], S.limbs_Of, none⟩ else bif Nat.beq i 30 then some ⟨(.pair tI .unit), (.pair .str .unit), [], S.whole_Text, none⟩ else bif Nat.beq i 31 then some ⟨(.pair (.sl (.int .u32)) .unit), (.pair .str .unit), [], S.digits_Text, none⟩ else none, ann := fun i => [], ord := fun i => bif Nat.beq i 1 then [0, 1, 2, 3, 4] else bif Nat.beq i 3 then [0, 1, 4, 5, 2, 3, 6, 7, 8] else [] }
theorem ratio_Text_eq (K : Nat) (a : dI × (List Int) × Unit) : exF Γ_ratio_Text K Tryd.f9 (.pair tR .unit) (.pair .str .unit) [] (a, ()) = ratio_Text a := by kernel_rfl
theorem env_ratio_Text : EnvOK Tryd.prog G Γ_ratio_Text := ⟨T_ok, ((phi_cons fn_limbs_Compare (phi_cons fn_limbs_Of (phi_cons fn_whole_Text (phi_cons fn_digits_Text phi_nil)))) : PhiOK Tryd.prog G Γ_ratio_Text.Φ), fun _ _ h => (by cases h), mixed⟩
theorem fn_ratio_Text : FnOK Tryd.prog G 9 ⟨(.pair tR .unit), (.pair .str .unit), [], S.ratio_Text, none⟩ := FnOK.of env_ratio_Text Tryd.func9 (by kernel_rfl) (by kernel_rfl) (of_decide_eq_true (by kernel_rfl)) (fun x y h => ⟨0, (ratio_Text_eq 0 x.1).trans h⟩)

noncomputable def Γ_internal_stringslite_Index : Env := { T := T, Φ := fun i => bif Nat.beq i 91 then some ⟨(.pair .str (.pair (.int .u8) .unit)), (.pair (.int .i64) .unit), [], S.internal_stringslite_IndexByte, none⟩ else none, ann := fun i => [], ord := fun i => [] }
theorem internal_stringslite_Index_eq (K : Nat) (s : ByteArray) (substr : ByteArray) : exF Γ_internal_stringslite_Index K Tryd.f76 (.pair .str (.pair .str .unit)) (.pair (.int .i64) .unit) [] (s, substr, ()) = internal_stringslite_Index s substr := by kernel_rfl
theorem env_internal_stringslite_Index : EnvOK Tryd.prog G Γ_internal_stringslite_Index := ⟨T_ok, ((phi_cons fn_internal_stringslite_IndexByte phi_nil) : PhiOK Tryd.prog G Γ_internal_stringslite_Index.Φ), fun _ _ h => (by cases h), mixed⟩
theorem fn_internal_stringslite_Index : FnOK Tryd.prog G 76 ⟨(.pair .str (.pair .str .unit)), (.pair (.int .i64) .unit), [], S.internal_stringslite_Index, none⟩ := FnOK.of env_internal_stringslite_Index Tryd.func76 (by kernel_rfl) (by kernel_rfl) (of_decide_eq_true (by kernel_rfl)) (fun x y h => ⟨0, (internal_stringslite_Index_eq 0 x.1 x.2.1).trans h⟩)

noncomputable def Γ_internal_stringslite_Cut : Env := { T := T, Φ := fun i => bif Nat.beq i 76 then some ⟨(.pair .str (.pair .str .unit)), (.pair (.int .i64) .unit), [], S.internal_stringslite_Index, none⟩ else none, ann := fun i => [], ord := fun i => bif Nat.beq i 3 then [0, 1, 2, 3, 4, 5, 6, 7, 8, 9, 10, 11] else [] }
theorem internal_stringslite_Cut_eq (K : Nat) (s : ByteArray) (sep : ByteArray) : exF Γ_internal_stringslite_Cut K Tryd.f60 (.pair .str (.pair .str .unit)) (.pair .str (.pair .str (.pair .bool .unit))) [] (s, sep, ()) = internal_stringslite_Cut s sep := by kernel_rfl
theorem env_internal_stringslite_Cut : EnvOK Tryd.prog G Γ_internal_stringslite_Cut := ⟨T_ok, ((phi_cons fn_internal_stringslite_Index phi_nil) : PhiOK Tryd.prog G Γ_internal_stringslite_Cut.Φ), fun _ _ h => (by cases h), mixed⟩
theorem fn_internal_stringslite_Cut : FnOK Tryd.prog G 60 ⟨(.pair .str (.pair .str .unit)), (.pair .str (.pair .str (.pair .bool .unit))), [], S.internal_stringslite_Cut, none⟩ := FnOK.of env_internal_stringslite_Cut Tryd.func60 (by kernel_rfl) (by kernel_rfl) (of_decide_eq_true (by kernel_rfl)) (fun x y h => ⟨0, (internal_stringslite_Cut_eq 0 x.1 x.2.1).trans h⟩)

noncomputable def Γ_strings_Cut : Env := { T := T, Φ := fun i => bif Nat.beq i 60 then some ⟨(.pair .str (.pair .str .unit)), (.pair .str (.pair .str (.pair .bool .unit))), [], S.internal_stringslite_Cut, none⟩ else none, ann := fun i => [], ord := fun i => [] }
theorem strings_Cut_eq (K : Nat) (s : ByteArray) (sep : ByteArray) : exF Γ_strings_Cut K Tryd.f32 (.pair .str (.pair .str .unit)) (.pair .str (.pair .str (.pair .bool .unit))) [] (s, sep, ()) = strings_Cut s sep := by kernel_rfl
theorem env_strings_Cut : EnvOK Tryd.prog G Γ_strings_Cut := ⟨T_ok, ((phi_cons fn_internal_stringslite_Cut phi_nil) : PhiOK Tryd.prog G Γ_strings_Cut.Φ), fun _ _ h => (by cases h), mixed⟩
theorem fn_strings_Cut : FnOK Tryd.prog G 32 ⟨(.pair .str (.pair .str .unit)), (.pair .str (.pair .str (.pair .bool .unit))), [], S.strings_Cut, none⟩ := FnOK.of env_strings_Cut Tryd.func32 (by kernel_rfl) (by kernel_rfl) (of_decide_eq_true (by kernel_rfl)) (fun x y h => ⟨0, (strings_Cut_eq 0 x.1 x.2.1).trans h⟩)

noncomputable def Γ_digits_step : Env := { T := T, Φ := fun i => bif Nat.beq i 24 then some ⟨(.pair (.int .u64) .unit), (.pair (.sl (.int .u32)) .unit), [], S.limbs_Of, none⟩ else bif Nat.beq i 70 then some ⟨(.pair (.sl (.int .u32)) (.pair (.sl (.int .u32)) .unit)), (.pair (.sl (.int .u32)) (.pair (.int .i64) .unit)), [], S.limbs_Mul, none⟩ else bif Nat.beq i 78 then some ⟨(.pair (.sl (.int .u32)) (.pair (.sl (.int .u32)) .unit)), (.pair (.sl (.int .u32)) (.pair (.int .i64) .unit)), [], S.limbs_Add, none⟩ else none, ann := fun i => bif Nat.beq i 3 then [(0, .c (.data (.int .u32))), (1, .c .sc), (6, .c .sc), (7, .c .sc), (12, .c .sc), (13, .c .sc)] else [], ord := fun i => [] }
noncomputable def digits_step_c : Code := (Tryd.f63.body).getD .skip
noncomputable def digits_step_fin := finish Γ_digits_step Tryd.f63.results.toList (.pair (.sl (.int .u32)) (.pair (.int .i64) .unit)) []
noncomputable def digits_step_mk0 (a : List Int) (s : ByteArray) (n2 : Int) (scale : Int) (t12 : Int) (t13 : Int) : St := { t := (upd (upd (upd (upd (upd (upd (fun _ => .undef) 0 (.one (.sl (.int .u32) a))) 1 (.one (.str s))) 6 (.one (.int .u64 n2))) 7 (.one (.int .u64 scale))) 12 (.one (.int .i64 t12))) 13 (.one (.int .i64 t13))), m := (upd (fun _ => .free) 0 .held), nx := 1000000, n := 43 }
theorem digits_step_loop0 (K : Nat) : ∀ (n : Nat) (a : List Int) (s : ByteArray) (n2 : Int) (scale : Int) (t12 : Int) (t13 : Int), loopAt Γ_digits_step K [.r, .r, .l, .r, .b] digits_step_c [] digits_step_fin (fun _ _ => none) digits_step_fin n (digits_step_mk0 a s n2 scale t12 t13) = digits_step_l0 K n a s n2 scale t12 t13 := by
  intro n
  induction n with
  | zero => intro a s n2 scale t12 t13; kernel_rfl
  | succ n ih =>
    intro a s n2 scale t12 t13
    have e : loopAt Γ_digits_step K [.r, .r, .l, .r, .b] digits_step_c [] digits_step_fin (fun _ _ => none) digits_step_fin (n + 1) (digits_step_mk0 a s n2 scale t12 t13) = digits_step_s0 (fun (a : List Int) (s : ByteArray) (n2 : Int) (scale : Int) (t12 : Int) (t13 : Int) => loopAt Γ_digits_step K [.r, .r, .l, .r, .b] digits_step_c [] digits_step_fin (fun _ _ => none) digits_step_fin n (digits_step_mk0 a s n2 scale t12 t13)) a s n2 scale t12 t13 := by kernel_rfl
    rw [e]
    rw [show (fun (a : List Int) (s : ByteArray) (n2 : Int) (scale : Int) (t12 : Int) (t13 : Int) => loopAt Γ_digits_step K [.r, .r, .l, .r, .b] digits_step_c [] digits_step_fin (fun _ _ => none) digits_step_fin n (digits_step_mk0 a s n2 scale t12 t13)) = _ from funext fun a => funext fun s => funext fun n2 => funext fun scale => funext fun t12 => funext fun t13 => ih a s n2 scale t12 t13]
    rfl
theorem digits_step_eq (K : Nat) (a : List Int) (s : ByteArray) : exF Γ_digits_step K Tryd.f63 (.pair (.sl (.int .u32)) (.pair .str .unit)) (.pair (.sl (.int .u32)) (.pair (.int .i64) .unit)) [] (a, s, ()) = digits_step K a s := by
  have e : exF Γ_digits_step K Tryd.f63 (.pair (.sl (.int .u32)) (.pair .str .unit)) (.pair (.sl (.int .u32)) (.pair (.int .i64) .unit)) [] (a, s, ()) = digits_step_b (fun (a : List Int) (s : ByteArray) (n2 : Int) (scale : Int) (t12 : Int) (t13 : Int) => loopAt Γ_digits_step K [.r, .r, .l, .r, .b] digits_step_c [] digits_step_fin (fun _ _ => none) digits_step_fin K (digits_step_mk0 a s n2 scale t12 t13)) a s := by kernel_rfl
  rw [e]
  rw [show (fun (a : List Int) (s : ByteArray) (n2 : Int) (scale : Int) (t12 : Int) (t13 : Int) => loopAt Γ_digits_step K [.r, .r, .l, .r, .b] digits_step_c [] digits_step_fin (fun _ _ => none) digits_step_fin K (digits_step_mk0 a s n2 scale t12 t13)) = _ from funext fun a => funext fun s => funext fun n2 => funext fun scale => funext fun t12 => funext fun t13 => digits_step_loop0 K K a s n2 scale t12 t13]
  rfl
theorem env_digits_step : EnvOK Tryd.prog G Γ_digits_step := ⟨T_ok, ((phi_cons fn_limbs_Of (phi_cons fn_limbs_Mul (phi_cons fn_limbs_Add phi_nil))) : PhiOK Tryd.prog G Γ_digits_step.Φ), fun _ _ h => (by cases h), mixed⟩
theorem fn_digits_step : FnOK Tryd.prog G 63 ⟨(.pair (.sl (.int .u32)) (.pair .str .unit)), (.pair (.sl (.int .u32)) (.pair (.int .i64) .unit)), [], S.digits_step, none⟩ := FnOK.of env_digits_step Tryd.func63 (by kernel_rfl) (by kernel_rfl) (of_decide_eq_true (by kernel_rfl)) (fun x y h => by obtain ⟨K, hK⟩ := digits_step_ok x y h; exact ⟨K, (digits_step_eq K x.1 x.2.1).trans hK⟩)

noncomputable def Γ_digits_Parse : Env := { T := T, Φ := fun i => bif Nat.beq i 63 then some ⟨(.pair (.sl (.int .u32)) (.pair .str .unit)), (.pair (.sl (.int .u32)) (.pair (.int .i64) .unit)), [], S.digits_step, none⟩ else none, ann := fun i => bif Nat.beq i 4 then [(0, .c .sc), (12, .c (.iter 100))] else bif Nat.beq i 11 then [(0, .c .sc), (6, .c (.data (.int .u32)))] else [], ord := fun i => [] }
noncomputable def digits_Parse_c : Code := (Tryd.f34.body).getD .skip
noncomputable def digits_Parse_fin := finish Γ_digits_Parse Tryd.f34.results.toList (.pair (.sl (.int .u32)) (.pair (.int .i64) .unit)) []
noncomputable def digits_Parse_mk0 (s : ByteArray) (t12_s : ByteArray) (t12_p : Nat) : St := { t := (upd (upd (fun _ => .undef) 0 (.one (.str s))) 12 (.one (.iter 100))), m := (upd (upd (fun _ => .free) 0 .held) 100 (.iter t12_s t12_p)), nx := 1000000, n := 47 }
noncomputable def digits_Parse_mk1 (s : ByteArray) (out : List Int) : St := { t := (upd (upd (fun _ => .undef) 0 (.one (.str s))) 6 (.one (.sl (.int .u32) out))), m := (upd (fun _ => .free) 0 .held), nx := 1000000, n := 47 }
theorem digits_Parse_loop1 (K : Nat) (κ0 : St → Option (Den (.pair (.sl (.int .u32)) (.pair (.int .i64) .unit)))) : ∀ (n : Nat) (s : ByteArray) (out : List Int), loopAt Γ_digits_Parse K [.r, .r, .r, .r, .r, .l, .b] digits_Parse_c [] digits_Parse_fin (fun _ _ => none) digits_Parse_fin n (digits_Parse_mk1 s out) = digits_Parse_l1 K (fun (s : ByteArray) (t12_s : ByteArray) (t12_p : Nat) => κ0 (digits_Parse_mk0 s t12_s t12_p)) n s out := by
  intro n
  induction n with
  | zero => intro s out; kernel_rfl
  | succ n ih =>
    intro s out
    have e : loopAt Γ_digits_Parse K [.r, .r, .r, .r, .r, .l, .b] digits_Parse_c [] digits_Parse_fin (fun _ _ => none) digits_Parse_fin (n + 1) (digits_Parse_mk1 s out) = digits_Parse_s1 (fun (s : ByteArray) (t12_s : ByteArray) (t12_p : Nat) => κ0 (digits_Parse_mk0 s t12_s t12_p)) (fun (s : ByteArray) (out : List Int) => loopAt Γ_digits_Parse K [.r, .r, .r, .r, .r, .l, .b] digits_Parse_c [] digits_Parse_fin (fun _ _ => none) digits_Parse_fin n (digits_Parse_mk1 s out)) s out := by kernel_rfl
    rw [e]
    rw [show (fun (s : ByteArray) (out : List Int) => loopAt Γ_digits_Parse K [.r, .r, .r, .r, .r, .l, .b] digits_Parse_c [] digits_Parse_fin (fun _ _ => none) digits_Parse_fin n (digits_Parse_mk1 s out)) = _ from funext fun s => funext fun out => ih s out]
    rfl
theorem digits_Parse_loop0 (K : Nat) : ∀ (n : Nat) (s : ByteArray) (t12_s : ByteArray) (t12_p : Nat), loopAt Γ_digits_Parse K [.r, .r, .l, .r, .b] digits_Parse_c [] digits_Parse_fin (fun _ _ => none) digits_Parse_fin n (digits_Parse_mk0 s t12_s t12_p) = digits_Parse_l0 K n s t12_s t12_p := by
  intro n
  induction n with
  | zero => intro s t12_s t12_p; kernel_rfl
  | succ n ih =>
    intro s t12_s t12_p
    have e : loopAt Γ_digits_Parse K [.r, .r, .l, .r, .b] digits_Parse_c [] digits_Parse_fin (fun _ _ => none) digits_Parse_fin (n + 1) (digits_Parse_mk0 s t12_s t12_p) = digits_Parse_s0 (fun (s : ByteArray) (out : List Int) => loopAt Γ_digits_Parse K [.r, .r, .r, .r, .r, .l, .b] digits_Parse_c [] digits_Parse_fin (fun _ _ => none) digits_Parse_fin K (digits_Parse_mk1 s out)) (fun (s : ByteArray) (t12_s : ByteArray) (t12_p : Nat) => loopAt Γ_digits_Parse K [.r, .r, .l, .r, .b] digits_Parse_c [] digits_Parse_fin (fun _ _ => none) digits_Parse_fin n (digits_Parse_mk0 s t12_s t12_p)) s t12_s t12_p := by kernel_rfl
    rw [e]
    rw [show (fun (s : ByteArray) (out : List Int) => loopAt Γ_digits_Parse K [.r, .r, .r, .r, .r, .l, .b] digits_Parse_c [] digits_Parse_fin (fun _ _ => none) digits_Parse_fin K (digits_Parse_mk1 s out)) = _ from funext fun s => funext fun out => digits_Parse_loop1 K (loopAt Γ_digits_Parse K [.r, .r, .l, .r, .b] digits_Parse_c [] digits_Parse_fin (fun _ _ => none) digits_Parse_fin n) K s out]
    rw [show (fun (s : ByteArray) (t12_s : ByteArray) (t12_p : Nat) => loopAt Γ_digits_Parse K [.r, .r, .l, .r, .b] digits_Parse_c [] digits_Parse_fin (fun _ _ => none) digits_Parse_fin n (digits_Parse_mk0 s t12_s t12_p)) = _ from funext fun s => funext fun t12_s => funext fun t12_p => ih s t12_s t12_p]
    rfl
theorem digits_Parse_eq (K : Nat) (s : ByteArray) : exF Γ_digits_Parse K Tryd.f34 (.pair .str .unit) (.pair (.sl (.int .u32)) (.pair (.int .i64) .unit)) [] (s, ()) = digits_Parse K s := by
  have e : exF Γ_digits_Parse K Tryd.f34 (.pair .str .unit) (.pair (.sl (.int .u32)) (.pair (.int .i64) .unit)) [] (s, ()) = digits_Parse_b (fun (s : ByteArray) (t12_s : ByteArray) (t12_p : Nat) => loopAt Γ_digits_Parse K [.r, .r, .l, .r, .b] digits_Parse_c [] digits_Parse_fin (fun _ _ => none) digits_Parse_fin K (digits_Parse_mk0 s t12_s t12_p)) s := by kernel_rfl
  rw [e]
  rw [show (fun (s : ByteArray) (t12_s : ByteArray) (t12_p : Nat) => loopAt Γ_digits_Parse K [.r, .r, .l, .r, .b] digits_Parse_c [] digits_Parse_fin (fun _ _ => none) digits_Parse_fin K (digits_Parse_mk0 s t12_s t12_p)) = _ from funext fun s => funext fun t12_s => funext fun t12_p => digits_Parse_loop0 K K s t12_s t12_p]
  rfl
theorem env_digits_Parse : EnvOK Tryd.prog G Γ_digits_Parse := ⟨T_ok, ((phi_cons fn_digits_step phi_nil) : PhiOK Tryd.prog G Γ_digits_Parse.Φ), fun _ _ h => (by cases h), mixed⟩
theorem fn_digits_Parse : FnOK Tryd.prog G 34 ⟨(.pair .str .unit), (.pair (.sl (.int .u32)) (.pair (.int .i64) .unit)), [], S.digits_Parse, none⟩ := FnOK.of env_digits_Parse Tryd.func34 (by kernel_rfl) (by kernel_rfl) (of_decide_eq_true (by kernel_rfl)) (fun x y h => by obtain ⟨K, hK⟩ := digits_Parse_ok x y h; exact ⟨K, (digits_Parse_eq K x.1).trans hK⟩)

noncomputable def Γ_internal_stringslite_HasPrefix : Env := { T := T, Φ := fun i => none, ann := fun i => [], ord := fun i => [] }
theorem internal_stringslite_HasPrefix_eq (K : Nat) (s : ByteArray) (prefix_ : ByteArray) : exF Γ_internal_stringslite_HasPrefix K Tryd.f43 (.pair .str (.pair .str .unit)) (.pair .bool .unit) [] (s, prefix_, ()) = internal_stringslite_HasPrefix s prefix_ := by kernel_rfl
theorem env_internal_stringslite_HasPrefix : EnvOK Tryd.prog G Γ_internal_stringslite_HasPrefix := ⟨T_ok, (phi_nil : PhiOK Tryd.prog G Γ_internal_stringslite_HasPrefix.Φ), fun _ _ h => (by cases h), mixed⟩
theorem fn_internal_stringslite_HasPrefix : FnOK Tryd.prog G 43 ⟨(.pair .str (.pair .str .unit)), (.pair .bool .unit), [], S.internal_stringslite_HasPrefix, none⟩ := FnOK.of env_internal_stringslite_HasPrefix Tryd.func43 (by kernel_rfl) (by kernel_rfl) (of_decide_eq_true (by kernel_rfl)) (fun x y h => ⟨0, (internal_stringslite_HasPrefix_eq 0 x.1 x.2.1).trans h⟩)

noncomputable def Γ_internal_stringslite_CutPrefix : Env := { T := T, Φ := fun i => bif Nat.beq i 43 then some ⟨(.pair .str (.pair .str .unit)), (.pair .bool .unit), [], S.internal_stringslite_HasPrefix, none⟩ else none, ann := fun i => [], ord := fun i => [] }
theorem internal_stringslite_CutPrefix_eq (K : Nat) (s : ByteArray) (prefix_ : ByteArray) : exF Γ_internal_stringslite_CutPrefix K Tryd.f77 (.pair .str (.pair .str .unit)) (.pair .str (.pair .bool .unit)) [] (s, prefix_, ()) = internal_stringslite_CutPrefix s prefix_ := by kernel_rfl
theorem env_internal_stringslite_CutPrefix : EnvOK Tryd.prog G Γ_internal_stringslite_CutPrefix := ⟨T_ok, ((phi_cons fn_internal_stringslite_HasPrefix phi_nil) : PhiOK Tryd.prog G Γ_internal_stringslite_CutPrefix.Φ), fun _ _ h => (by cases h), mixed⟩
theorem fn_internal_stringslite_CutPrefix : FnOK Tryd.prog G 77 ⟨(.pair .str (.pair .str .unit)), (.pair .str (.pair .bool .unit)), [], S.internal_stringslite_CutPrefix, none⟩ := FnOK.of env_internal_stringslite_CutPrefix Tryd.func77 (by kernel_rfl) (by kernel_rfl) (of_decide_eq_true (by kernel_rfl)) (fun x y h => ⟨0, (internal_stringslite_CutPrefix_eq 0 x.1 x.2.1).trans h⟩)

noncomputable def Γ_strings_CutPrefix : Env := { T := T, Φ := fun i => bif Nat.beq i 77 then some ⟨(.pair .str (.pair .str .unit)), (.pair .str (.pair .bool .unit)), [], S.internal_stringslite_CutPrefix, none⟩ else none, ann := fun i => [], ord := fun i => [] }
theorem strings_CutPrefix_eq (K : Nat) (s : ByteArray) (prefix_ : ByteArray) : exF Γ_strings_CutPrefix K Tryd.f61 (.pair .str (.pair .str .unit)) (.pair .str (.pair .bool .unit)) [] (s, prefix_, ()) = strings_CutPrefix s prefix_ := by kernel_rfl
theorem env_strings_CutPrefix : EnvOK Tryd.prog G Γ_strings_CutPrefix := ⟨T_ok, ((phi_cons fn_internal_stringslite_CutPrefix phi_nil) : PhiOK Tryd.prog G Γ_strings_CutPrefix.Φ), fun _ _ h => (by cases h), mixed⟩
theorem fn_strings_CutPrefix : FnOK Tryd.prog G 61 ⟨(.pair .str (.pair .str .unit)), (.pair .str (.pair .bool .unit)), [], S.strings_CutPrefix, none⟩ := FnOK.of env_strings_CutPrefix Tryd.func61 (by kernel_rfl) (by kernel_rfl) (of_decide_eq_true (by kernel_rfl)) (fun x y h => ⟨0, (strings_CutPrefix_eq 0 x.1 x.2.1).trans h⟩)

noncomputable def Γ_whole_Parse : Env := { T := T, Φ := fun i => bif Nat.beq i 34 then some ⟨(.pair .str .unit), (.pair (.sl (.int .u32)) (.pair (.int .i64) .unit)), [], S.digits_Parse, none⟩ else bif Nat.beq i 61 then some ⟨(.pair .str (.pair .str .unit)), (.pair .str (.pair .bool .unit)), [], S.strings_CutPrefix, none⟩ else bif Nat.beq i 62 then some ⟨tI, (.pair tI .unit), [], S.whole_of, none⟩ else none, ann := fun i => [], ord := fun i => [] }
theorem whole_Parse_eq (K : Nat) (s : ByteArray) : exF Γ_whole_Parse K Tryd.f33 (.pair .str .unit) tY [] (s, ()) = whole_Parse s := by kernel_rfl
theorem env_whole_Parse : EnvOK Tryd.prog G Γ_whole_Parse := ⟨T_ok, ((phi_cons fn_digits_Parse (phi_cons fn_strings_CutPrefix (phi_cons fn_whole_of phi_nil))) : PhiOK Tryd.prog G Γ_whole_Parse.Φ), fun _ _ h => (by cases h), mixed⟩
theorem fn_whole_Parse : FnOK Tryd.prog G 33 ⟨(.pair .str .unit), tY, [], S.whole_Parse, none⟩ := FnOK.of env_whole_Parse Tryd.func33 (by kernel_rfl) (by kernel_rfl) (of_decide_eq_true (by kernel_rfl)) (fun x y h => ⟨0, (whole_Parse_eq 0 x.1).trans h⟩)

noncomputable def Γ_ratio_Whole : Env := { T := T, Φ := fun i => bif Nat.beq i 24 then some ⟨(.pair (.int .u64) .unit), (.pair (.sl (.int .u32)) .unit), [], S.limbs_Of, none⟩ else bif Nat.beq i 46 then some ⟨(.pair (.sl (.int .u32)) .unit), (.pair (.sl (.int .u32)) .unit), [none], S.slices_Clone_api_Nat_uint32, none⟩ else none, ann := fun i => [], ord := fun i => bif Nat.beq i 1 then [0, 1, 2, 3, 4, 5, 6, 7, 8] else [] }
theorem ratio_Whole_eq (K : Nat) (a : Bool × (List Int) × Unit) : exF Γ_ratio_Whole K Tryd.f38 (.pair tI .unit) (.pair tR .unit) [] (a, ()) = ratio_Whole a := by kernel_rfl
theorem env_ratio_Whole : EnvOK Tryd.prog G Γ_ratio_Whole := ⟨T_ok, ((phi_cons fn_limbs_Of (phi_cons fn_slices_Clone_api_Nat_uint32 phi_nil)) : PhiOK Tryd.prog G Γ_ratio_Whole.Φ), fun _ _ h => (by cases h), mixed⟩
theorem fn_ratio_Whole : FnOK Tryd.prog G 38 ⟨(.pair tI .unit), (.pair tR .unit), [], S.ratio_Whole, none⟩ := FnOK.of env_ratio_Whole Tryd.func38 (by kernel_rfl) (by kernel_rfl) (of_decide_eq_true (by kernel_rfl)) (fun x y h => ⟨0, (ratio_Whole_eq 0 x.1).trans h⟩)

noncomputable def Γ_digits_power : Env := { T := T, Φ := fun i => bif Nat.beq i 24 then some ⟨(.pair (.int .u64) .unit), (.pair (.sl (.int .u32)) .unit), [], S.limbs_Of, none⟩ else bif Nat.beq i 70 then some ⟨(.pair (.sl (.int .u32)) (.pair (.sl (.int .u32)) .unit)), (.pair (.sl (.int .u32)) (.pair (.int .i64) .unit)), [], S.limbs_Mul, none⟩ else none, ann := fun i => bif Nat.beq i 6 then [(0, .c (.data (.int .u32))), (1, .c .sc), (6, .c (.data (.int .u32))), (8, .c .sc)] else [], ord := fun i => [] }
noncomputable def digits_power_c : Code := (Tryd.f65.body).getD .skip
noncomputable def digits_power_fin := finish Γ_digits_power Tryd.f65.results.toList (.pair (.sl (.int .u32)) (.pair (.int .i64) .unit)) []
noncomputable def digits_power_mk0 (a : List Int) (n2 : Int) (out : List Int) (bit : Int) : St := { t := (upd (upd (upd (upd (fun _ => .undef) 0 (.one (.sl (.int .u32) a))) 1 (.one (.int .i64 n2))) 6 (.one (.sl (.int .u32) out))) 8 (.one (.int .i64 bit))), m := (upd (fun _ => .free) 0 .held), nx := 1000000, n := 39 }
theorem digits_power_loop0 (K : Nat) : ∀ (n : Nat) (a : List Int) (n2 : Int) (out : List Int) (bit : Int), loopAt Γ_digits_power K [.r, .r, .r, .r, .l, .r, .b] digits_power_c [] digits_power_fin (fun _ _ => none) digits_power_fin n (digits_power_mk0 a n2 out bit) = digits_power_l0 K n a n2 out bit := by
  intro n
  induction n with
  | zero => intro a n2 out bit; kernel_rfl
  | succ n ih =>
    intro a n2 out bit
    have e : loopAt Γ_digits_power K [.r, .r, .r, .r, .l, .r, .b] digits_power_c [] digits_power_fin (fun _ _ => none) digits_power_fin (n + 1) (digits_power_mk0 a n2 out bit) = digits_power_s0 (fun (a : List Int) (n2 : Int) (out : List Int) (bit : Int) => loopAt Γ_digits_power K [.r, .r, .r, .r, .l, .r, .b] digits_power_c [] digits_power_fin (fun _ _ => none) digits_power_fin n (digits_power_mk0 a n2 out bit)) a n2 out bit := by kernel_rfl
    rw [e]
    rw [show (fun (a : List Int) (n2 : Int) (out : List Int) (bit : Int) => loopAt Γ_digits_power K [.r, .r, .r, .r, .l, .r, .b] digits_power_c [] digits_power_fin (fun _ _ => none) digits_power_fin n (digits_power_mk0 a n2 out bit)) = _ from funext fun a => funext fun n2 => funext fun out => funext fun bit => ih a n2 out bit]
    rfl
theorem digits_power_eq (K : Nat) (a : List Int) (n : Int) : exF Γ_digits_power K Tryd.f65 (.pair (.sl (.int .u32)) (.pair (.int .i64) .unit)) (.pair (.sl (.int .u32)) (.pair (.int .i64) .unit)) [] (a, n, ()) = digits_power K a n := by
  have e : exF Γ_digits_power K Tryd.f65 (.pair (.sl (.int .u32)) (.pair (.int .i64) .unit)) (.pair (.sl (.int .u32)) (.pair (.int .i64) .unit)) [] (a, n, ()) = digits_power_b (fun (a : List Int) (n2 : Int) (out : List Int) (bit : Int) => loopAt Γ_digits_power K [.r, .r, .r, .r, .l, .r, .b] digits_power_c [] digits_power_fin (fun _ _ => none) digits_power_fin K (digits_power_mk0 a n2 out bit)) a n := by kernel_rfl
  rw [e]
  rw [show (fun (a : List Int) (n2 : Int) (out : List Int) (bit : Int) => loopAt Γ_digits_power K [.r, .r, .r, .r, .l, .r, .b] digits_power_c [] digits_power_fin (fun _ _ => none) digits_power_fin K (digits_power_mk0 a n2 out bit)) = _ from funext fun a => funext fun n2 => funext fun out => funext fun bit => digits_power_loop0 K K a n2 out bit]
  rfl
theorem env_digits_power : EnvOK Tryd.prog G Γ_digits_power := ⟨T_ok, ((phi_cons fn_limbs_Of (phi_cons fn_limbs_Mul phi_nil)) : PhiOK Tryd.prog G Γ_digits_power.Φ), fun _ _ h => (by cases h), mixed⟩
theorem fn_digits_power : FnOK Tryd.prog G 65 ⟨(.pair (.sl (.int .u32)) (.pair (.int .i64) .unit)), (.pair (.sl (.int .u32)) (.pair (.int .i64) .unit)), [], S.digits_power, none⟩ := FnOK.of env_digits_power Tryd.func65 (by kernel_rfl) (by kernel_rfl) (of_decide_eq_true (by kernel_rfl)) (fun x y h => by obtain ⟨K, hK⟩ := digits_power_ok x y h; exact ⟨K, (digits_power_eq K x.1 x.2.1).trans hK⟩)

noncomputable def Γ_digits_Ten : Env := { T := T, Φ := fun i => bif Nat.beq i 24 then some ⟨(.pair (.int .u64) .unit), (.pair (.sl (.int .u32)) .unit), [], S.limbs_Of, none⟩ else bif Nat.beq i 65 then some ⟨(.pair (.sl (.int .u32)) (.pair (.int .i64) .unit)), (.pair (.sl (.int .u32)) (.pair (.int .i64) .unit)), [], S.digits_power, none⟩ else none, ann := fun i => [], ord := fun i => [] }
theorem digits_Ten_eq (K : Nat) (n : Int) : exF Γ_digits_Ten K Tryd.f39 (.pair (.int .i64) .unit) (.pair (.sl (.int .u32)) (.pair (.int .i64) .unit)) [] (n, ()) = digits_Ten n := by kernel_rfl
theorem env_digits_Ten : EnvOK Tryd.prog G Γ_digits_Ten := ⟨T_ok, ((phi_cons fn_limbs_Of (phi_cons fn_digits_power phi_nil)) : PhiOK Tryd.prog G Γ_digits_Ten.Φ), fun _ _ h => (by cases h), mixed⟩
theorem fn_digits_Ten : FnOK Tryd.prog G 39 ⟨(.pair (.int .i64) .unit), (.pair (.sl (.int .u32)) (.pair (.int .i64) .unit)), [], S.digits_Ten, none⟩ := FnOK.of env_digits_Ten Tryd.func39 (by kernel_rfl) (by kernel_rfl) (of_decide_eq_true (by kernel_rfl)) (fun x y h => ⟨0, (digits_Ten_eq 0 x.1).trans h⟩)

noncomputable def Γ_ratio_Parse : Env := { T := T, Φ := fun i => bif Nat.beq i 19 then some ⟨.unit, (.pair tR .unit), [], S.ratio_Zero, none⟩ else bif Nat.beq i 32 then some ⟨(.pair .str (.pair .str .unit)), (.pair .str (.pair .str (.pair .bool .unit))), [], S.strings_Cut, none⟩ else bif Nat.beq i 33 then some ⟨(.pair .str .unit), tY, [], S.whole_Parse, none⟩ else bif Nat.beq i 34 then some ⟨(.pair .str .unit), (.pair (.sl (.int .u32)) (.pair (.int .i64) .unit)), [], S.digits_Parse, none⟩ else bif Nat.beq i 35 then some ⟨(.pair (.sl (.int .i64)) .unit), (.pair (.int .i64) .unit), [], S.ratio_first, none⟩ else bif Nat.beq i 36 then some ⟨(.pair tI (.pair tI .unit)), (.pair tR (.pair (.int .i64) .unit)), [], S.ratio_Make, none⟩ else bif Nat.beq i 37 then some ⟨(.pair (.sl (.int .u32)) .unit), (.pair tI .unit), [], S.whole_Nat, none⟩ else bif Nat.beq i 38 then some ⟨(.pair tI .unit), (.pair tR .unit), [], S.ratio_Whole, none⟩ else bif Nat.beq i 39 then some ⟨(.pair (.int .i64) .unit), (.pair (.sl (.int .u32)) (.pair (.int .i64) .unit)), [], S.digits_Ten, none⟩ else none, ann := fun i => [], ord := fun i => bif Nat.beq i 8 then [0, 1, 2, 3, 4, 5, 6, 7] else bif Nat.beq i 26 then [0, 1, 2, 3, 4, 5, 6, 7] else [] }
theorem ratio_Parse_eq (K : Nat) (s : ByteArray) : exF Γ_ratio_Parse K Tryd.f10 (.pair .str .unit) (.pair tR (.pair (.int .i64) .unit)) [] (s, ()) = ratio_Parse s := by kernel_rfl
theorem env_ratio_Parse : EnvOK Tryd.prog G Γ_ratio_Parse := ⟨T_ok, ((phi_cons fn_ratio_Zero (phi_cons fn_strings_Cut (phi_cons fn_whole_Parse (phi_cons fn_digits_Parse (phi_cons fn_ratio_first (phi_cons fn_ratio_Make (phi_cons fn_whole_Nat (phi_cons fn_ratio_Whole (phi_cons fn_digits_Ten phi_nil))))))))) : PhiOK Tryd.prog G Γ_ratio_Parse.Φ), fun _ _ h => (by cases h), mixed⟩
theorem fn_ratio_Parse : FnOK Tryd.prog G 10 ⟨(.pair .str .unit), (.pair tR (.pair (.int .i64) .unit)), [], S.ratio_Parse, none⟩ := FnOK.of env_ratio_Parse Tryd.func10 (by kernel_rfl) (by kernel_rfl) (of_decide_eq_true (by kernel_rfl)) (fun x y h => ⟨0, (ratio_Parse_eq 0 x.1).trans h⟩)

noncomputable def Γ_slices_Equal_api_Nat_uint32 : Env := { T := T, Φ := fun i => none, ann := fun i => bif Nat.beq i 4 then [(0, .c (.data (.int .u32))), (1, .c (.data (.int .u32))), (12, .c .sc), (13, .c .sc)] else [], ord := fun i => bif Nat.beq i 6 then [0, 1, 2, 3, 4, 5, 6, 7, 8] else [] }
noncomputable def slices_Equal_api_Nat_uint32_c : Code := (Tryd.f40.body).getD .skip
noncomputable def slices_Equal_api_Nat_uint32_fin := finish Γ_slices_Equal_api_Nat_uint32 Tryd.f40.results.toList (.pair .bool .unit) []
noncomputable def slices_Equal_api_Nat_uint32_mk0 (s1 : List Int) (s2 : List Int) (t12 : Int) (t13 : Int) : St := { t := (upd (upd (upd (upd (fun _ => .undef) 0 (.one (.sl (.int .u32) s1))) 1 (.one (.sl (.int .u32) s2))) 12 (.one (.int .i64 t12))) 13 (.one (.int .i64 t13))), m := (upd (fun _ => .free) 0 .held), nx := 1000000, n := 26 }
theorem slices_Equal_api_Nat_uint32_loop0 (K : Nat) : ∀ (n : Nat) (s1 : List Int) (s2 : List Int) (t12 : Int) (t13 : Int), loopAt Γ_slices_Equal_api_Nat_uint32 K [.r, .r, .l, .r, .b] slices_Equal_api_Nat_uint32_c [] slices_Equal_api_Nat_uint32_fin (fun _ _ => none) slices_Equal_api_Nat_uint32_fin n (slices_Equal_api_Nat_uint32_mk0 s1 s2 t12 t13) = slices_Equal_api_Nat_uint32_l0 K n s1 s2 t12 t13 := by
  intro n
  induction n with
  | zero => intro s1 s2 t12 t13; kernel_rfl
  | succ n ih =>
    intro s1 s2 t12 t13
    have e : loopAt Γ_slices_Equal_api_Nat_uint32 K [.r, .r, .l, .r, .b] slices_Equal_api_Nat_uint32_c [] slices_Equal_api_Nat_uint32_fin (fun _ _ => none) slices_Equal_api_Nat_uint32_fin (n + 1) (slices_Equal_api_Nat_uint32_mk0 s1 s2 t12 t13) = slices_Equal_api_Nat_uint32_s0 (fun (s1 : List Int) (s2 : List Int) (t12 : Int) (t13 : Int) => loopAt Γ_slices_Equal_api_Nat_uint32 K [.r, .r, .l, .r, .b] slices_Equal_api_Nat_uint32_c [] slices_Equal_api_Nat_uint32_fin (fun _ _ => none) slices_Equal_api_Nat_uint32_fin n (slices_Equal_api_Nat_uint32_mk0 s1 s2 t12 t13)) s1 s2 t12 t13 := by kernel_rfl
    rw [e]
    rw [show (fun (s1 : List Int) (s2 : List Int) (t12 : Int) (t13 : Int) => loopAt Γ_slices_Equal_api_Nat_uint32 K [.r, .r, .l, .r, .b] slices_Equal_api_Nat_uint32_c [] slices_Equal_api_Nat_uint32_fin (fun _ _ => none) slices_Equal_api_Nat_uint32_fin n (slices_Equal_api_Nat_uint32_mk0 s1 s2 t12 t13)) = _ from funext fun s1 => funext fun s2 => funext fun t12 => funext fun t13 => ih s1 s2 t12 t13]
    rfl
theorem slices_Equal_api_Nat_uint32_eq (K : Nat) (s1 : List Int) (s2 : List Int) : exF Γ_slices_Equal_api_Nat_uint32 K Tryd.f40 (.pair (.sl (.int .u32)) (.pair (.sl (.int .u32)) .unit)) (.pair .bool .unit) [] (s1, s2, ()) = slices_Equal_api_Nat_uint32 K s1 s2 := by
  have e : exF Γ_slices_Equal_api_Nat_uint32 K Tryd.f40 (.pair (.sl (.int .u32)) (.pair (.sl (.int .u32)) .unit)) (.pair .bool .unit) [] (s1, s2, ()) = slices_Equal_api_Nat_uint32_b (fun (s1 : List Int) (s2 : List Int) (t12 : Int) (t13 : Int) => loopAt Γ_slices_Equal_api_Nat_uint32 K [.r, .r, .l, .r, .b] slices_Equal_api_Nat_uint32_c [] slices_Equal_api_Nat_uint32_fin (fun _ _ => none) slices_Equal_api_Nat_uint32_fin K (slices_Equal_api_Nat_uint32_mk0 s1 s2 t12 t13)) s1 s2 := by kernel_rfl
  rw [e]
  rw [show (fun (s1 : List Int) (s2 : List Int) (t12 : Int) (t13 : Int) => loopAt Γ_slices_Equal_api_Nat_uint32 K [.r, .r, .l, .r, .b] slices_Equal_api_Nat_uint32_c [] slices_Equal_api_Nat_uint32_fin (fun _ _ => none) slices_Equal_api_Nat_uint32_fin K (slices_Equal_api_Nat_uint32_mk0 s1 s2 t12 t13)) = _ from funext fun s1 => funext fun s2 => funext fun t12 => funext fun t13 => slices_Equal_api_Nat_uint32_loop0 K K s1 s2 t12 t13]
  rfl
theorem env_slices_Equal_api_Nat_uint32 : EnvOK Tryd.prog G Γ_slices_Equal_api_Nat_uint32 := ⟨T_ok, (phi_nil : PhiOK Tryd.prog G Γ_slices_Equal_api_Nat_uint32.Φ), fun _ _ h => (by cases h), mixed⟩
theorem fn_slices_Equal_api_Nat_uint32 : FnOK Tryd.prog G 40 ⟨(.pair (.sl (.int .u32)) (.pair (.sl (.int .u32)) .unit)), (.pair .bool .unit), [], S.slices_Equal_api_Nat_uint32, none⟩ := FnOK.of env_slices_Equal_api_Nat_uint32 Tryd.func40 (by kernel_rfl) (by kernel_rfl) (of_decide_eq_true (by kernel_rfl)) (fun x y h => by obtain ⟨K, hK⟩ := slices_Equal_api_Nat_uint32_ok x y h; exact ⟨K, (slices_Equal_api_Nat_uint32_eq K x.1 x.2.1).trans hK⟩)

noncomputable def Γ_vec_Same : Env := { T := T, Φ := fun i => bif Nat.beq i 25 then some ⟨(.pair tR (.pair tR .unit)), (.pair (.int .i64) (.pair (.int .i64) .unit)), [], S.ratio_Compare, none⟩ else bif Nat.beq i 40 then some ⟨(.pair (.sl (.int .u32)) (.pair (.sl (.int .u32)) .unit)), (.pair .bool .unit), [], S.slices_Equal_api_Nat_uint32, none⟩ else none, ann := fun i => bif Nat.beq i 4 then [(0, .c (.data tR)), (1, .c (.data tR)), (16, .c .sc), (17, .c .sc)] else [], ord := fun i => bif Nat.beq i 6 then [0, 1, 2, 3, 4, 5, 6, 7, 8, 9, 10, 11, 12, 13] else bif Nat.beq i 9 then [0, 1, 2, 3, 4, 5, 6, 7, 8, 9, 10, 11] else [] }
noncomputable def vec_Same_c : Code := (Tryd.f11.body).getD .skip
noncomputable def vec_Same_fin := finish Γ_vec_Same Tryd.f11.results.toList (.pair .bool .unit) []
noncomputable def vec_Same_mk0 (a : List dR) (b : List dR) (t16 : Int) (t17 : Int) : St := { t := (upd (upd (upd (upd (fun _ => .undef) 0 (.one (.sl tR a))) 1 (.one (.sl tR b))) 16 (.one (.int .i64 t16))) 17 (.one (.int .i64 t17))), m := (upd (fun _ => .free) 0 .held), nx := 1000000, n := 76 }
theorem vec_Same_loop0 (K : Nat) : ∀ (n : Nat) (a : List dR) (b : List dR) (t16 : Int) (t17 : Int), loopAt Γ_vec_Same K [.r, .r, .l, .r, .b] vec_Same_c [] vec_Same_fin (fun _ _ => none) vec_Same_fin n (vec_Same_mk0 a b t16 t17) = vec_Same_l0 K n a b t16 t17 := by
  intro n
  induction n with
  | zero => intro a b t16 t17; kernel_rfl
  | succ n ih =>
    intro a b t16 t17
    have e : loopAt Γ_vec_Same K [.r, .r, .l, .r, .b] vec_Same_c [] vec_Same_fin (fun _ _ => none) vec_Same_fin (n + 1) (vec_Same_mk0 a b t16 t17) = vec_Same_s0 (fun (a : List dR) (b : List dR) (t16 : Int) (t17 : Int) => loopAt Γ_vec_Same K [.r, .r, .l, .r, .b] vec_Same_c [] vec_Same_fin (fun _ _ => none) vec_Same_fin n (vec_Same_mk0 a b t16 t17)) a b t16 t17 := by kernel_rfl
    rw [e]
    rw [show (fun (a : List dR) (b : List dR) (t16 : Int) (t17 : Int) => loopAt Γ_vec_Same K [.r, .r, .l, .r, .b] vec_Same_c [] vec_Same_fin (fun _ _ => none) vec_Same_fin n (vec_Same_mk0 a b t16 t17)) = _ from funext fun a => funext fun b => funext fun t16 => funext fun t17 => ih a b t16 t17]
    rfl
theorem vec_Same_eq (K : Nat) (a : List dR) (b : List dR) : exF Γ_vec_Same K Tryd.f11 (.pair (.sl tR) (.pair (.sl tR) .unit)) (.pair .bool .unit) [] (a, b, ()) = vec_Same K a b := by
  have e : exF Γ_vec_Same K Tryd.f11 (.pair (.sl tR) (.pair (.sl tR) .unit)) (.pair .bool .unit) [] (a, b, ()) = vec_Same_b (fun (a : List dR) (b : List dR) (t16 : Int) (t17 : Int) => loopAt Γ_vec_Same K [.r, .r, .l, .r, .b] vec_Same_c [] vec_Same_fin (fun _ _ => none) vec_Same_fin K (vec_Same_mk0 a b t16 t17)) a b := by kernel_rfl
  rw [e]
  rw [show (fun (a : List dR) (b : List dR) (t16 : Int) (t17 : Int) => loopAt Γ_vec_Same K [.r, .r, .l, .r, .b] vec_Same_c [] vec_Same_fin (fun _ _ => none) vec_Same_fin K (vec_Same_mk0 a b t16 t17)) = _ from funext fun a => funext fun b => funext fun t16 => funext fun t17 => vec_Same_loop0 K K a b t16 t17]
  rfl
theorem env_vec_Same : EnvOK Tryd.prog G Γ_vec_Same := ⟨T_ok, ((phi_cons fn_ratio_Compare (phi_cons fn_slices_Equal_api_Nat_uint32 phi_nil)) : PhiOK Tryd.prog G Γ_vec_Same.Φ), fun _ _ h => (by cases h), mixed⟩
theorem fn_vec_Same : FnOK Tryd.prog G 11 ⟨(.pair (.sl tR) (.pair (.sl tR) .unit)), (.pair .bool .unit), [], S.vec_Same, none⟩ := FnOK.of env_vec_Same Tryd.func11 (by kernel_rfl) (by kernel_rfl) (of_decide_eq_true (by kernel_rfl)) (fun x y h => ⟨100, (vec_Same_eq 100 x.1 x.2.1).trans h⟩)

noncomputable def Γ_girdletop_WholeNumbers : Env := { T := T, Φ := fun i => bif Nat.beq i 4 then some ⟨(.pair .str .unit), (.pair (.sl (.pair (.int .i64) (.pair (.int .i64) (.pair .str .unit)))) (.pair (.pair (.int .i64) (.pair (.int .i64) .unit)) .unit)), [], S.lex_Scan, none⟩ else bif Nat.beq i 5 then some ⟨(.pair (.int .i64) .unit), (.pair (.sl tR) .unit), [some 39], S.vec_Zero, none⟩ else bif Nat.beq i 6 then some ⟨(.pair (.sl tR) (.pair (.int .i64) .unit)), (.pair (.int .i64) .unit), [], S.vec_Check, none⟩ else bif Nat.beq i 7 then some ⟨(.pair tR .unit), (.pair (.int .i64) .unit), [], S.ratio_Check, none⟩ else bif Nat.beq i 8 then some ⟨(.pair (.pair (.sl tR) (.pair (.sl (.sl tR)) .unit)) (.pair (.sl tR) .unit)), (.pair (.sl tR) (.pair (.int .i64) .unit)), [], S.model_Point, none⟩ else bif Nat.beq i 9 then some ⟨(.pair tR .unit), (.pair .str .unit), [], S.ratio_Text, none⟩ else bif Nat.beq i 10 then some ⟨(.pair .str .unit), (.pair tR (.pair (.int .i64) .unit)), [], S.ratio_Parse, none⟩ else bif Nat.beq i 11 then some ⟨(.pair (.sl tR) (.pair (.sl tR) .unit)), (.pair .bool .unit), [], S.vec_Same, none⟩ else none, ann := fun i => bif Nat.beq i 8 then [(1, .c (.data tR)), (2, .var 100 [.data tR, .data (.sl tR)]), (7, .c .sc), (63, .c (.own 101 22 (.sl tR))), (64, .c .sc), (65, .c .sc)] else bif Nat.beq i 13 then [(1, .c (.data tR)), (2, .var 100 [.data tR, .data (.sl tR)]), (7, .c .sc), (63, .c (.own 101 22 (.sl tR))), (64, .c .sc), (65, .c .sc), (73, .c (.data tR)), (74, .c .sc), (75, .c .sc)] else bif Nat.beq i 20 then [(1, .c (.data tR)), (2, .var 100 [.data tR, .data (.sl tR)]), (92, .c (.data tR)), (93, .c .sc), (94, .c .sc)] else bif Nat.beq i 29 then [(126, .c (.data tR)), (127, .c .sc), (128, .c .sc)] else [], ord := fun i => [] }
noncomputable def girdletop_WholeNumbers_c : Code := (Tryd.f3.body).getD .skip
noncomputable def girdletop_WholeNumbers_fin := finish Γ_girdletop_WholeNumbers Tryd.f3.results.toList (.pair .bool .unit) []
noncomputable def girdletop_WholeNumbers_mk0 (by_ : List dR) (z_0 : List dR) (z_1 : List (List dR)) (n2 : Int) (t63 : List (List dR)) (t64 : Int) (t65 : Int) : St := { t := (upd (upd (upd (upd (upd (upd (fun _ => .undef) 1 (.one (.sl tR by_))) 2 (.one (.vptr 100 0))) 7 (.one (.int .i64 n2))) 63 (.one (.own 101))) 64 (.one (.int .i64 t64))) 65 (.one (.int .i64 t65))), m := (upd (upd (upd (fun _ => .free) 0 .held) 100 (.var true [.sl tR z_0, .sl (.sl tR) z_1])) 101 (.row true 22 (.sl tR) t63)), nx := 1000000, n := 172 }
noncomputable def girdletop_WholeNumbers_mk1 (by_ : List dR) (z_0 : List dR) (z_1 : List (List dR)) (n2 : Int) (t63 : List (List dR)) (t64 : Int) (t65 : Int) (t73 : List dR) (t74 : Int) (t75 : Int) : St := { t := (upd (upd (upd (upd (upd (upd (upd (upd (upd (fun _ => .undef) 1 (.one (.sl tR by_))) 2 (.one (.vptr 100 0))) 7 (.one (.int .i64 n2))) 63 (.one (.own 101))) 64 (.one (.int .i64 t64))) 65 (.one (.int .i64 t65))) 73 (.one (.sl tR t73))) 74 (.one (.int .i64 t74))) 75 (.one (.int .i64 t75))), m := (upd (upd (upd (fun _ => .free) 0 .held) 100 (.var true [.sl tR z_0, .sl (.sl tR) z_1])) 101 (.row true 22 (.sl tR) t63)), nx := 1000000, n := 172 }
noncomputable def girdletop_WholeNumbers_mk2 (by_ : List dR) (z_0 : List dR) (z_1 : List (List dR)) (t92 : List dR) (t93 : Int) (t94 : Int) : St := { t := (upd (upd (upd (upd (upd (fun _ => .undef) 1 (.one (.sl tR by_))) 2 (.one (.vptr 100 0))) 92 (.one (.sl tR t92))) 93 (.one (.int .i64 t93))) 94 (.one (.int .i64 t94))), m := (upd (upd (fun _ => .free) 0 .held) 100 (.var true [.sl tR z_0, .sl (.sl tR) z_1])), nx := 1000000, n := 172 }
noncomputable def girdletop_WholeNumbers_mk3 (t126 : List dR) (t127 : Int) (t128 : Int) : St := { t := (upd (upd (upd (fun _ => .undef) 126 (.one (.sl tR t126))) 127 (.one (.int .i64 t127))) 128 (.one (.int .i64 t128))), m := (upd (fun _ => .free) 0 .held), nx := 1000000, n := 172 }
theorem girdletop_WholeNumbers_loop1 (K : Nat) (κ0 : St → Option (Den (.pair .bool .unit))) : ∀ (n : Nat) (by_ : List dR) (z_0 : List dR) (z_1 : List (List dR)) (n2 : Int) (t63 : List (List dR)) (t64 : Int) (t65 : Int) (t73 : List dR) (t74 : Int) (t75 : Int), loopAt Γ_girdletop_WholeNumbers K [.r, .r, .r, .r, .r, .l, .r, .b, .c, .r, .r, .l, .b, .r, .r, .r, .b] girdletop_WholeNumbers_c [fun st => mask [(1, .c (.data tR)), (2, .var 100 [.data tR, .data (.sl tR)]), (7, .c .sc), (63, .c (.own 101 22 (.sl tR))), (64, .c .sc), (65, .c .sc)] 1000000 st (κ0)] girdletop_WholeNumbers_fin (fun _ _ => none) girdletop_WholeNumbers_fin n (girdletop_WholeNumbers_mk1 by_ z_0 z_1 n2 t63 t64 t65 t73 t74 t75) = girdletop_WholeNumbers_l1 K (fun (by_ : List dR) (z_0 : List dR) (z_1 : List (List dR)) (n2 : Int) (t63 : List (List dR)) (t64 : Int) (t65 : Int) => κ0 (girdletop_WholeNumbers_mk0 by_ z_0 z_1 n2 t63 t64 t65)) n by_ z_0 z_1 n2 t63 t64 t65 t73 t74 t75 := by
  intro n
  induction n with
  | zero => intro by_ z_0 z_1 n2 t63 t64 t65 t73 t74 t75; kernel_rfl
  | succ n ih =>
    intro by_ z_0 z_1 n2 t63 t64 t65 t73 t74 t75
    have e : loopAt Γ_girdletop_WholeNumbers K [.r, .r, .r, .r, .r, .l, .r, .b, .c, .r, .r, .l, .b, .r, .r, .r, .b] girdletop_WholeNumbers_c [fun st => mask [(1, .c (.data tR)), (2, .var 100 [.data tR, .data (.sl tR)]), (7, .c .sc), (63, .c (.own 101 22 (.sl tR))), (64, .c .sc), (65, .c .sc)] 1000000 st (κ0)] girdletop_WholeNumbers_fin (fun _ _ => none) girdletop_WholeNumbers_fin (n + 1) (girdletop_WholeNumbers_mk1 by_ z_0 z_1 n2 t63 t64 t65 t73 t74 t75) = girdletop_WholeNumbers_s1 (fun (by_ : List dR) (z_0 : List dR) (z_1 : List (List dR)) (n2 : Int) (t63 : List (List dR)) (t64 : Int) (t65 : Int) => κ0 (girdletop_WholeNumbers_mk0 by_ z_0 z_1 n2 t63 t64 t65)) (fun (by_ : List dR) (z_0 : List dR) (z_1 : List (List dR)) (n2 : Int) (t63 : List (List dR)) (t64 : Int) (t65 : Int) (t73 : List dR) (t74 : Int) (t75 : Int) => loopAt Γ_girdletop_WholeNumbers K [.r, .r, .r, .r, .r, .l, .r, .b, .c, .r, .r, .l, .b, .r, .r, .r, .b] girdletop_WholeNumbers_c [fun st => mask [(1, .c (.data tR)), (2, .var 100 [.data tR, .data (.sl tR)]), (7, .c .sc), (63, .c (.own 101 22 (.sl tR))), (64, .c .sc), (65, .c .sc)] 1000000 st (κ0)] girdletop_WholeNumbers_fin (fun _ _ => none) girdletop_WholeNumbers_fin n (girdletop_WholeNumbers_mk1 by_ z_0 z_1 n2 t63 t64 t65 t73 t74 t75)) by_ z_0 z_1 n2 t63 t64 t65 t73 t74 t75 := by kernel_rfl
    rw [e]
    rw [show (fun (by_ : List dR) (z_0 : List dR) (z_1 : List (List dR)) (n2 : Int) (t63 : List (List dR)) (t64 : Int) (t65 : Int) (t73 : List dR) (t74 : Int) (t75 : Int) => loopAt Γ_girdletop_WholeNumbers K [.r, .r, .r, .r, .r, .l, .r, .b, .c, .r, .r, .l, .b, .r, .r, .r, .b] girdletop_WholeNumbers_c [fun st => mask [(1, .c (.data tR)), (2, .var 100 [.data tR, .data (.sl tR)]), (7, .c .sc), (63, .c (.own 101 22 (.sl tR))), (64, .c .sc), (65, .c .sc)] 1000000 st (κ0)] girdletop_WholeNumbers_fin (fun _ _ => none) girdletop_WholeNumbers_fin n (girdletop_WholeNumbers_mk1 by_ z_0 z_1 n2 t63 t64 t65 t73 t74 t75)) = _ from funext fun by_ => funext fun z_0 => funext fun z_1 => funext fun n2 => funext fun t63 => funext fun t64 => funext fun t65 => funext fun t73 => funext fun t74 => funext fun t75 => ih by_ z_0 z_1 n2 t63 t64 t65 t73 t74 t75]
    rfl
theorem girdletop_WholeNumbers_loop3 (K : Nat) (κ0 : St → Option (Den (.pair .bool .unit))) (κ2 : St → Option (Den (.pair .bool .unit))) : ∀ (n : Nat) (t126 : List dR) (t127 : Int) (t128 : Int), loopAt Γ_girdletop_WholeNumbers K [.r, .r, .r, .r, .r, .r, .r, .r, .r, .l, .r, .b] girdletop_WholeNumbers_c [] girdletop_WholeNumbers_fin (fun _ _ => none) girdletop_WholeNumbers_fin n (girdletop_WholeNumbers_mk3 t126 t127 t128) = girdletop_WholeNumbers_l3 K (fun (by_ : List dR) (z_0 : List dR) (z_1 : List (List dR)) (n2 : Int) (t63 : List (List dR)) (t64 : Int) (t65 : Int) => κ0 (girdletop_WholeNumbers_mk0 by_ z_0 z_1 n2 t63 t64 t65)) (fun (by_ : List dR) (z_0 : List dR) (z_1 : List (List dR)) (t92 : List dR) (t93 : Int) (t94 : Int) => κ2 (girdletop_WholeNumbers_mk2 by_ z_0 z_1 t92 t93 t94)) n t126 t127 t128 := by
  intro n
  induction n with
  | zero => intro t126 t127 t128; kernel_rfl
  | succ n ih =>
    intro t126 t127 t128
    have e : loopAt Γ_girdletop_WholeNumbers K [.r, .r, .r, .r, .r, .r, .r, .r, .r, .l, .r, .b] girdletop_WholeNumbers_c [] girdletop_WholeNumbers_fin (fun _ _ => none) girdletop_WholeNumbers_fin (n + 1) (girdletop_WholeNumbers_mk3 t126 t127 t128) = girdletop_WholeNumbers_s3 (fun (by_ : List dR) (z_0 : List dR) (z_1 : List (List dR)) (n2 : Int) (t63 : List (List dR)) (t64 : Int) (t65 : Int) => κ0 (girdletop_WholeNumbers_mk0 by_ z_0 z_1 n2 t63 t64 t65)) (fun (by_ : List dR) (z_0 : List dR) (z_1 : List (List dR)) (t92 : List dR) (t93 : Int) (t94 : Int) => κ2 (girdletop_WholeNumbers_mk2 by_ z_0 z_1 t92 t93 t94)) (fun (t126 : List dR) (t127 : Int) (t128 : Int) => loopAt Γ_girdletop_WholeNumbers K [.r, .r, .r, .r, .r, .r, .r, .r, .r, .l, .r, .b] girdletop_WholeNumbers_c [] girdletop_WholeNumbers_fin (fun _ _ => none) girdletop_WholeNumbers_fin n (girdletop_WholeNumbers_mk3 t126 t127 t128)) t126 t127 t128 := by kernel_rfl
    rw [e]
    rw [show (fun (t126 : List dR) (t127 : Int) (t128 : Int) => loopAt Γ_girdletop_WholeNumbers K [.r, .r, .r, .r, .r, .r, .r, .r, .r, .l, .r, .b] girdletop_WholeNumbers_c [] girdletop_WholeNumbers_fin (fun _ _ => none) girdletop_WholeNumbers_fin n (girdletop_WholeNumbers_mk3 t126 t127 t128)) = _ from funext fun t126 => funext fun t127 => funext fun t128 => ih t126 t127 t128]
    rfl
theorem girdletop_WholeNumbers_loop2 (K : Nat) (κ0 : St → Option (Den (.pair .bool .unit))) : ∀ (n : Nat) (by_ : List dR) (z_0 : List dR) (z_1 : List (List dR)) (t92 : List dR) (t93 : Int) (t94 : Int), loopAt Γ_girdletop_WholeNumbers K [.r, .r, .r, .r, .r, .r, .l, .r, .b] girdletop_WholeNumbers_c [] girdletop_WholeNumbers_fin (fun _ _ => none) girdletop_WholeNumbers_fin n (girdletop_WholeNumbers_mk2 by_ z_0 z_1 t92 t93 t94) = girdletop_WholeNumbers_l2 K (fun (by_ : List dR) (z_0 : List dR) (z_1 : List (List dR)) (n2 : Int) (t63 : List (List dR)) (t64 : Int) (t65 : Int) => κ0 (girdletop_WholeNumbers_mk0 by_ z_0 z_1 n2 t63 t64 t65)) n by_ z_0 z_1 t92 t93 t94 := by
  intro n
  induction n with
  | zero => intro by_ z_0 z_1 t92 t93 t94; kernel_rfl
  | succ n ih =>
    intro by_ z_0 z_1 t92 t93 t94
    have e : loopAt Γ_girdletop_WholeNumbers K [.r, .r, .r, .r, .r, .r, .l, .r, .b] girdletop_WholeNumbers_c [] girdletop_WholeNumbers_fin (fun _ _ => none) girdletop_WholeNumbers_fin (n + 1) (girdletop_WholeNumbers_mk2 by_ z_0 z_1 t92 t93 t94) = girdletop_WholeNumbers_s2 (fun (t126 : List dR) (t127 : Int) (t128 : Int) => loopAt Γ_girdletop_WholeNumbers K [.r, .r, .r, .r, .r, .r, .r, .r, .r, .l, .r, .b] girdletop_WholeNumbers_c [] girdletop_WholeNumbers_fin (fun _ _ => none) girdletop_WholeNumbers_fin K (girdletop_WholeNumbers_mk3 t126 t127 t128)) (fun (by_ : List dR) (z_0 : List dR) (z_1 : List (List dR)) (n2 : Int) (t63 : List (List dR)) (t64 : Int) (t65 : Int) => κ0 (girdletop_WholeNumbers_mk0 by_ z_0 z_1 n2 t63 t64 t65)) (fun (by_ : List dR) (z_0 : List dR) (z_1 : List (List dR)) (t92 : List dR) (t93 : Int) (t94 : Int) => loopAt Γ_girdletop_WholeNumbers K [.r, .r, .r, .r, .r, .r, .l, .r, .b] girdletop_WholeNumbers_c [] girdletop_WholeNumbers_fin (fun _ _ => none) girdletop_WholeNumbers_fin n (girdletop_WholeNumbers_mk2 by_ z_0 z_1 t92 t93 t94)) by_ z_0 z_1 t92 t93 t94 := by kernel_rfl
    rw [e]
    rw [show (fun (t126 : List dR) (t127 : Int) (t128 : Int) => loopAt Γ_girdletop_WholeNumbers K [.r, .r, .r, .r, .r, .r, .r, .r, .r, .l, .r, .b] girdletop_WholeNumbers_c [] girdletop_WholeNumbers_fin (fun _ _ => none) girdletop_WholeNumbers_fin K (girdletop_WholeNumbers_mk3 t126 t127 t128)) = _ from funext fun t126 => funext fun t127 => funext fun t128 => girdletop_WholeNumbers_loop3 K (κ0) (loopAt Γ_girdletop_WholeNumbers K [.r, .r, .r, .r, .r, .r, .l, .r, .b] girdletop_WholeNumbers_c [] girdletop_WholeNumbers_fin (fun _ _ => none) girdletop_WholeNumbers_fin n) K t126 t127 t128]
    rw [show (fun (by_ : List dR) (z_0 : List dR) (z_1 : List (List dR)) (t92 : List dR) (t93 : Int) (t94 : Int) => loopAt Γ_girdletop_WholeNumbers K [.r, .r, .r, .r, .r, .r, .l, .r, .b] girdletop_WholeNumbers_c [] girdletop_WholeNumbers_fin (fun _ _ => none) girdletop_WholeNumbers_fin n (girdletop_WholeNumbers_mk2 by_ z_0 z_1 t92 t93 t94)) = _ from funext fun by_ => funext fun z_0 => funext fun z_1 => funext fun t92 => funext fun t93 => funext fun t94 => ih by_ z_0 z_1 t92 t93 t94]
    rfl
theorem girdletop_WholeNumbers_loop0 (K : Nat) : ∀ (n : Nat) (by_ : List dR) (z_0 : List dR) (z_1 : List (List dR)) (n2 : Int) (t63 : List (List dR)) (t64 : Int) (t65 : Int), loopAt Γ_girdletop_WholeNumbers K [.r, .r, .r, .r, .r, .l, .r, .b] girdletop_WholeNumbers_c [] girdletop_WholeNumbers_fin (fun _ _ => none) girdletop_WholeNumbers_fin n (girdletop_WholeNumbers_mk0 by_ z_0 z_1 n2 t63 t64 t65) = girdletop_WholeNumbers_l0 K n by_ z_0 z_1 n2 t63 t64 t65 := by
  intro n
  induction n with
  | zero => intro by_ z_0 z_1 n2 t63 t64 t65; kernel_rfl
  | succ n ih =>
    intro by_ z_0 z_1 n2 t63 t64 t65
    have e : loopAt Γ_girdletop_WholeNumbers K [.r, .r, .r, .r, .r, .l, .r, .b] girdletop_WholeNumbers_c [] girdletop_WholeNumbers_fin (fun _ _ => none) girdletop_WholeNumbers_fin (n + 1) (girdletop_WholeNumbers_mk0 by_ z_0 z_1 n2 t63 t64 t65) = girdletop_WholeNumbers_s0 (fun (by_ : List dR) (z_0 : List dR) (z_1 : List (List dR)) (n2 : Int) (t63 : List (List dR)) (t64 : Int) (t65 : Int) (t73 : List dR) (t74 : Int) (t75 : Int) => loopAt Γ_girdletop_WholeNumbers K [.r, .r, .r, .r, .r, .l, .r, .b, .c, .r, .r, .l, .b, .r, .r, .r, .b] girdletop_WholeNumbers_c [fun st => mask [(1, .c (.data tR)), (2, .var 100 [.data tR, .data (.sl tR)]), (7, .c .sc), (63, .c (.own 101 22 (.sl tR))), (64, .c .sc), (65, .c .sc)] 1000000 st (loopAt Γ_girdletop_WholeNumbers K [.r, .r, .r, .r, .r, .l, .r, .b] girdletop_WholeNumbers_c [] girdletop_WholeNumbers_fin (fun _ _ => none) girdletop_WholeNumbers_fin n)] girdletop_WholeNumbers_fin (fun _ _ => none) girdletop_WholeNumbers_fin K (girdletop_WholeNumbers_mk1 by_ z_0 z_1 n2 t63 t64 t65 t73 t74 t75)) (fun (by_ : List dR) (z_0 : List dR) (z_1 : List (List dR)) (t92 : List dR) (t93 : Int) (t94 : Int) => loopAt Γ_girdletop_WholeNumbers K [.r, .r, .r, .r, .r, .r, .l, .r, .b] girdletop_WholeNumbers_c [] girdletop_WholeNumbers_fin (fun _ _ => none) girdletop_WholeNumbers_fin K (girdletop_WholeNumbers_mk2 by_ z_0 z_1 t92 t93 t94)) (fun (by_ : List dR) (z_0 : List dR) (z_1 : List (List dR)) (n2 : Int) (t63 : List (List dR)) (t64 : Int) (t65 : Int) => loopAt Γ_girdletop_WholeNumbers K [.r, .r, .r, .r, .r, .l, .r, .b] girdletop_WholeNumbers_c [] girdletop_WholeNumbers_fin (fun _ _ => none) girdletop_WholeNumbers_fin n (girdletop_WholeNumbers_mk0 by_ z_0 z_1 n2 t63 t64 t65)) by_ z_0 z_1 n2 t63 t64 t65 := by kernel_rfl
    rw [e]
    rw [show (fun (by_ : List dR) (z_0 : List dR) (z_1 : List (List dR)) (n2 : Int) (t63 : List (List dR)) (t64 : Int) (t65 : Int) (t73 : List dR) (t74 : Int) (t75 : Int) => loopAt Γ_girdletop_WholeNumbers K [.r, .r, .r, .r, .r, .l, .r, .b, .c, .r, .r, .l, .b, .r, .r, .r, .b] girdletop_WholeNumbers_c [fun st => mask [(1, .c (.data tR)), (2, .var 100 [.data tR, .data (.sl tR)]), (7, .c .sc), (63, .c (.own 101 22 (.sl tR))), (64, .c .sc), (65, .c .sc)] 1000000 st (loopAt Γ_girdletop_WholeNumbers K [.r, .r, .r, .r, .r, .l, .r, .b] girdletop_WholeNumbers_c [] girdletop_WholeNumbers_fin (fun _ _ => none) girdletop_WholeNumbers_fin n)] girdletop_WholeNumbers_fin (fun _ _ => none) girdletop_WholeNumbers_fin K (girdletop_WholeNumbers_mk1 by_ z_0 z_1 n2 t63 t64 t65 t73 t74 t75)) = _ from funext fun by_ => funext fun z_0 => funext fun z_1 => funext fun n2 => funext fun t63 => funext fun t64 => funext fun t65 => funext fun t73 => funext fun t74 => funext fun t75 => girdletop_WholeNumbers_loop1 K (loopAt Γ_girdletop_WholeNumbers K [.r, .r, .r, .r, .r, .l, .r, .b] girdletop_WholeNumbers_c [] girdletop_WholeNumbers_fin (fun _ _ => none) girdletop_WholeNumbers_fin n) K by_ z_0 z_1 n2 t63 t64 t65 t73 t74 t75]
    rw [show (fun (by_ : List dR) (z_0 : List dR) (z_1 : List (List dR)) (t92 : List dR) (t93 : Int) (t94 : Int) => loopAt Γ_girdletop_WholeNumbers K [.r, .r, .r, .r, .r, .r, .l, .r, .b] girdletop_WholeNumbers_c [] girdletop_WholeNumbers_fin (fun _ _ => none) girdletop_WholeNumbers_fin K (girdletop_WholeNumbers_mk2 by_ z_0 z_1 t92 t93 t94)) = _ from funext fun by_ => funext fun z_0 => funext fun z_1 => funext fun t92 => funext fun t93 => funext fun t94 => girdletop_WholeNumbers_loop2 K (loopAt Γ_girdletop_WholeNumbers K [.r, .r, .r, .r, .r, .l, .r, .b] girdletop_WholeNumbers_c [] girdletop_WholeNumbers_fin (fun _ _ => none) girdletop_WholeNumbers_fin n) K by_ z_0 z_1 t92 t93 t94]
    rw [show (fun (by_ : List dR) (z_0 : List dR) (z_1 : List (List dR)) (n2 : Int) (t63 : List (List dR)) (t64 : Int) (t65 : Int) => loopAt Γ_girdletop_WholeNumbers K [.r, .r, .r, .r, .r, .l, .r, .b] girdletop_WholeNumbers_c [] girdletop_WholeNumbers_fin (fun _ _ => none) girdletop_WholeNumbers_fin n (girdletop_WholeNumbers_mk0 by_ z_0 z_1 n2 t63 t64 t65)) = _ from funext fun by_ => funext fun z_0 => funext fun z_1 => funext fun n2 => funext fun t63 => funext fun t64 => funext fun t65 => ih by_ z_0 z_1 n2 t63 t64 t65]
    rfl
theorem girdletop_WholeNumbers_eq (K : Nat) (z : (List dR) × (List (List dR)) × Unit) (by_ : List dR) : exF Γ_girdletop_WholeNumbers K Tryd.f3 (.pair (.pair (.sl tR) (.pair (.sl (.sl tR)) .unit)) (.pair (.sl tR) .unit)) (.pair .bool .unit) [] (z, by_, ()) = girdletop_WholeNumbers K z by_ := by
  have e : exF Γ_girdletop_WholeNumbers K Tryd.f3 (.pair (.pair (.sl tR) (.pair (.sl (.sl tR)) .unit)) (.pair (.sl tR) .unit)) (.pair .bool .unit) [] (z, by_, ()) = girdletop_WholeNumbers_b (fun (by_ : List dR) (z_0 : List dR) (z_1 : List (List dR)) (n2 : Int) (t63 : List (List dR)) (t64 : Int) (t65 : Int) => loopAt Γ_girdletop_WholeNumbers K [.r, .r, .r, .r, .r, .l, .r, .b] girdletop_WholeNumbers_c [] girdletop_WholeNumbers_fin (fun _ _ => none) girdletop_WholeNumbers_fin K (girdletop_WholeNumbers_mk0 by_ z_0 z_1 n2 t63 t64 t65)) z by_ := by kernel_rfl
  rw [e]
  rw [show (fun (by_ : List dR) (z_0 : List dR) (z_1 : List (List dR)) (n2 : Int) (t63 : List (List dR)) (t64 : Int) (t65 : Int) => loopAt Γ_girdletop_WholeNumbers K [.r, .r, .r, .r, .r, .l, .r, .b] girdletop_WholeNumbers_c [] girdletop_WholeNumbers_fin (fun _ _ => none) girdletop_WholeNumbers_fin K (girdletop_WholeNumbers_mk0 by_ z_0 z_1 n2 t63 t64 t65)) = _ from funext fun by_ => funext fun z_0 => funext fun z_1 => funext fun n2 => funext fun t63 => funext fun t64 => funext fun t65 => girdletop_WholeNumbers_loop0 K K by_ z_0 z_1 n2 t63 t64 t65]
  rfl
theorem env_girdletop_WholeNumbers : EnvOK Tryd.prog G Γ_girdletop_WholeNumbers := ⟨T_ok, ((phi_cons fn_lex_Scan (phi_cons fn_vec_Zero (phi_cons fn_vec_Check (phi_cons fn_ratio_Check (phi_cons fn_model_Point (phi_cons fn_ratio_Text (phi_cons fn_ratio_Parse (phi_cons fn_vec_Same phi_nil)))))))) : PhiOK Tryd.prog G Γ_girdletop_WholeNumbers.Φ), fun _ _ h => (by cases h), mixed⟩
theorem fn_girdletop_WholeNumbers : FnOK Tryd.prog G 3 ⟨(.pair (.pair (.sl tR) (.pair (.sl (.sl tR)) .unit)) (.pair (.sl tR) .unit)), (.pair .bool .unit), [], S.girdletop_WholeNumbers, none⟩ := FnOK.of env_girdletop_WholeNumbers Tryd.func3 (by kernel_rfl) (by kernel_rfl) (of_decide_eq_true (by kernel_rfl)) (fun x y h => ⟨100, (girdletop_WholeNumbers_eq 100 x.1 x.2.1).trans h⟩)

end Go.L

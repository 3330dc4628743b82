/-
  The functions of the seat, each by its equation.
  No condition beyond those that each theorem names.
-/
import Derived.Test.YtdadepdcllachaaGreatDoorZ
import Derived.Test.YtdadepdcllachaaGreatDoorB
import Derived.Test.YtdadepdcllachaaGreatDoorE
import Derived.Test.YtdadepdcllachaaGreatDoorProg

/-! LSeatZ9 -/
namespace Go.L
open Go.PM Go.Proofs
set_option linter.unusedVariables false
set_option maxRecDepth 100000
abbrev tI : Ty := (.pair .bool (.pair (.sl (.int .u32)) .unit))
abbrev tY : Ty := (.pair tI (.pair (.int .i64) .unit))
abbrev tS : Ty := (.pair tY (.pair tY .unit))
abbrev tR : Ty := (.pair tI (.pair (.sl (.int .u32)) .unit))
abbrev tE : Ty := (.pair (.int .i64) .unit)
abbrev lU : Ty := (.sl (.int .u32))
abbrev lY : Ty := (.sl tY)
abbrev lR : Ty := (.sl tR)
abbrev lS : Ty := (.sl tS)
abbrev tZ : Ty := (.pair lY (.pair (.sl lY) (.pair lY .unit)))
abbrev tV : Ty := (.pair lR (.pair (.sl lR) .unit))
abbrev dI := Bool × (List Int) × Unit
abbrev dY := dI × Int × Unit
abbrev dS := dY × dY × Unit
abbrev dR := dI × (List Int) × Unit
abbrev dZ := (List dY) × (List (List dY)) × (List dY) × Unit
abbrev dV := (List dR) × (List (List dR)) × Unit
abbrev Kt (r : Ty) := St → Option (Den r)
noncomputable def T : Nat → Option TRow := fun i => bif Nat.beq i 2 then some ⟨(.int .i64), .int .i64, 8⟩ else bif Nat.beq i 3 then some ⟨(.int .i64), .int .i64, 8⟩ else bif Nat.beq i 4 then some ⟨.bool, .bool, 1⟩ else bif Nat.beq i 5 then some ⟨(.int .u8), .int .u8, 1⟩ else bif Nat.beq i 9 then some ⟨.str, .str, 16⟩ else bif Nat.beq i 22 then some ⟨lR, .sl 28, 24⟩ else bif Nat.beq i 24 then some ⟨lU, .sl 110, 24⟩ else bif Nat.beq i 26 then some ⟨tI, .st [(0, 4), (1, 24)], 32⟩ else bif Nat.beq i 28 then some ⟨tR, .st [(0, 26), (2, 24)], 56⟩ else bif Nat.beq i 29 then some ⟨(.sl lS), .sl 56, 24⟩ else bif Nat.beq i 31 then some ⟨(.pair (.sl lS) (.pair (.sl lS) .unit)), .st [(0, 29), (1, 29)], 48⟩ else bif Nat.beq i 32 then some ⟨(.int .i64), .int .i64, 8⟩ else bif Nat.beq i 35 then some ⟨(.sl lR), .sl 22, 24⟩ else bif Nat.beq i 39 then some ⟨tY, .st [(0, 26), (2, 3)], 40⟩ else bif Nat.beq i 41 then some ⟨tS, .st [(0, 39), (3, 39)], 80⟩ else bif Nat.beq i 56 then some ⟨lS, .sl 41, 24⟩ else bif Nat.beq i 70 then some ⟨(.int .u64), .int .u64, 8⟩ else bif Nat.beq i 89 then some ⟨tS, .arr 2 39, 80⟩ else bif Nat.beq i 90 then some ⟨(.pair tS (.pair tS (.pair tS (.pair tS .unit)))), .arr 4 89, 320⟩ else bif Nat.beq i 110 then some ⟨(.int .u32), .int .u32, 4⟩ else bif Nat.beq i 124 then some ⟨(.sl (.int .i64)), .sl 32, 24⟩ else bif Nat.beq i 142 then some ⟨(.sl lS), .sl 56, 24⟩ else bif Nat.beq i 146 then some ⟨(.sl (.int .u8)), .sl 5, 24⟩ else none
theorem row2 : RowOK Tryz.prog 2 ⟨(.int .i64), .int .i64, 8⟩ := RowOK.of (by kernel_rfl) (by kernel_rfl) Tryz.underlying2 (by kernel_rfl)
theorem row3 : RowOK Tryz.prog 3 ⟨(.int .i64), .int .i64, 8⟩ := RowOK.of (by kernel_rfl) (by kernel_rfl) Tryz.underlying3 (by kernel_rfl)
theorem row4 : RowOK Tryz.prog 4 ⟨.bool, .bool, 1⟩ := RowOK.of (by kernel_rfl) (by kernel_rfl) Tryz.underlying4 (by kernel_rfl)
theorem row5 : RowOK Tryz.prog 5 ⟨(.int .u8), .int .u8, 1⟩ := RowOK.of (by kernel_rfl) (by kernel_rfl) Tryz.underlying5 (by kernel_rfl)
theorem row9 : RowOK Tryz.prog 9 ⟨.str, .str, 16⟩ := RowOK.of (by kernel_rfl) (by kernel_rfl) Tryz.underlying9 (by kernel_rfl)
theorem row22 : RowOK Tryz.prog 22 ⟨lR, .sl 28, 24⟩ := RowOK.of (by kernel_rfl) (by kernel_rfl) Tryz.underlying22 (by kernel_rfl)
theorem row24 : RowOK Tryz.prog 24 ⟨lU, .sl 110, 24⟩ := RowOK.of (by kernel_rfl) (by kernel_rfl) Tryz.underlying24 (by kernel_rfl)
theorem row26 : RowOK Tryz.prog 26 ⟨tI, .st [(0, 4), (1, 24)], 32⟩ := RowOK.of (by kernel_rfl) (by kernel_rfl) ⟨_, Tryz.underlying26, by kernel_rfl⟩ (by kernel_rfl)
theorem row28 : RowOK Tryz.prog 28 ⟨tR, .st [(0, 26), (2, 24)], 56⟩ := RowOK.of (by kernel_rfl) (by kernel_rfl) ⟨_, Tryz.underlying28, by kernel_rfl⟩ (by kernel_rfl)
theorem row29 : RowOK Tryz.prog 29 ⟨(.sl lS), .sl 56, 24⟩ := RowOK.of (by kernel_rfl) (by kernel_rfl) Tryz.underlying29 (by kernel_rfl)
theorem row31 : RowOK Tryz.prog 31 ⟨(.pair (.sl lS) (.pair (.sl lS) .unit)), .st [(0, 29), (1, 29)], 48⟩ := RowOK.of (by kernel_rfl) (by kernel_rfl) ⟨_, Tryz.underlying31, by kernel_rfl⟩ (by kernel_rfl)
theorem row32 : RowOK Tryz.prog 32 ⟨(.int .i64), .int .i64, 8⟩ := RowOK.of (by kernel_rfl) (by kernel_rfl) Tryz.underlying32 (by kernel_rfl)
theorem row35 : RowOK Tryz.prog 35 ⟨(.sl lR), .sl 22, 24⟩ := RowOK.of (by kernel_rfl) (by kernel_rfl) Tryz.underlying35 (by kernel_rfl)
theorem row39 : RowOK Tryz.prog 39 ⟨tY, .st [(0, 26), (2, 3)], 40⟩ := RowOK.of (by kernel_rfl) (by kernel_rfl) ⟨_, Tryz.underlying39, by kernel_rfl⟩ (by kernel_rfl)
theorem row41 : RowOK Tryz.prog 41 ⟨tS, .st [(0, 39), (3, 39)], 80⟩ := RowOK.of (by kernel_rfl) (by kernel_rfl) ⟨_, Tryz.underlying41, by kernel_rfl⟩ (by kernel_rfl)
theorem row56 : RowOK Tryz.prog 56 ⟨lS, .sl 41, 24⟩ := RowOK.of (by kernel_rfl) (by kernel_rfl) Tryz.underlying56 (by kernel_rfl)
theorem row70 : RowOK Tryz.prog 70 ⟨(.int .u64), .int .u64, 8⟩ := RowOK.of (by kernel_rfl) (by kernel_rfl) Tryz.underlying70 (by kernel_rfl)
theorem row89 : RowOK Tryz.prog 89 ⟨tS, .arr 2 39, 80⟩ := RowOK.of (by kernel_rfl) (by kernel_rfl) Tryz.underlying89 (by kernel_rfl)
theorem row90 : RowOK Tryz.prog 90 ⟨(.pair tS (.pair tS (.pair tS (.pair tS .unit)))), .arr 4 89, 320⟩ := RowOK.of (by kernel_rfl) (by kernel_rfl) Tryz.underlying90 (by kernel_rfl)
theorem row110 : RowOK Tryz.prog 110 ⟨(.int .u32), .int .u32, 4⟩ := RowOK.of (by kernel_rfl) (by kernel_rfl) Tryz.underlying110 (by kernel_rfl)
theorem row124 : RowOK Tryz.prog 124 ⟨(.sl (.int .i64)), .sl 32, 24⟩ := RowOK.of (by kernel_rfl) (by kernel_rfl) Tryz.underlying124 (by kernel_rfl)
theorem row142 : RowOK Tryz.prog 142 ⟨(.sl lS), .sl 56, 24⟩ := RowOK.of (by kernel_rfl) (by kernel_rfl) Tryz.underlying142 (by kernel_rfl)
theorem row146 : RowOK Tryz.prog 146 ⟨(.sl (.int .u8)), .sl 5, 24⟩ := RowOK.of (by kernel_rfl) (by kernel_rfl) Tryz.underlying146 (by kernel_rfl)
theorem T_ok : TypesOK Tryz.prog T := (types_cons row2 (types_cons row3 (types_cons row4 (types_cons row5 (types_cons row9 (types_cons row22 (types_cons row24 (types_cons row26 (types_cons row28 (types_cons row29 (types_cons row31 (types_cons row32 (types_cons row35 (types_cons row39 (types_cons row41 (types_cons row56 (types_cons row70 (types_cons row89 (types_cons row90 (types_cons row110 (types_cons row124 (types_cons row142 (types_cons row146 types_nil)))))))))))))))))))))))
theorem mixed : Tryz.prog.follows .mixedOrders = true := by kernel_rfl
noncomputable abbrev en_girdletop_WholePowers : Entry := ⟨(.pair lR (.pair tR .unit)), (.pair .bool .unit), [], S.girdletop_WholePowers, none⟩
noncomputable abbrev en_series_Make : Entry := ⟨(.pair (.sl lR) (.pair tR tE)), (.pair (.pair (.sl lS) (.pair (.sl lS) .unit)) tE), [], S.series_Make, none⟩
noncomputable abbrev en_mat_One : Entry := ⟨tE, (.pair (.sl lR) .unit), [], S.mat_One, none⟩
noncomputable abbrev en_ratio_Zero : Entry := ⟨.unit, (.pair tR .unit), [], S.ratio_Zero, none⟩
noncomputable abbrev en_grow_Exp : Entry := ⟨(.pair tR tE), (.pair tS tE), [], S.grow_Exp, none⟩
noncomputable abbrev en_span_Text : Entry := ⟨(.pair tS .unit), (.pair .str .unit), [], S.span_Text, none⟩
noncomputable abbrev en_ratio_Check : Entry := ⟨(.pair tR .unit), tE, [], S.ratio_Check, none⟩
noncomputable abbrev en_ratio_Sign : Entry := ⟨(.pair tR .unit), tE, [], S.ratio_Sign, none⟩
noncomputable abbrev en_mat_Zero : Entry := ⟨(.pair (.int .i64) tE), (.pair (.sl lR) .unit), [some 28000022], S.mat_Zero, none⟩
noncomputable abbrev en_grow_Rate : Entry := ⟨(.pair (.sl lR) (.pair tR .unit)), (.pair tR tE), [], S.grow_Rate, none⟩
noncomputable abbrev en_ratio_Compare : Entry := ⟨(.pair tR (.pair tR .unit)), (.pair (.int .i64) tE), [], S.ratio_Compare, none⟩
noncomputable abbrev en_ratio_Of : Entry := ⟨(.pair (.int .i64) tE), (.pair tR .unit), [], S.ratio_Of, none⟩
noncomputable abbrev en_span_Near : Entry := ⟨(.pair tR tE), (.pair tS tE), [], S.span_Near, none⟩
noncomputable abbrev en_ratio_Mul : Entry := ⟨(.pair tR (.pair tR .unit)), (.pair tR tE), [], S.ratio_Mul, none⟩
noncomputable abbrev en_grow_One : Entry := ⟨(.pair tR tE), (.pair tS tE), [], S.grow_One, none⟩
noncomputable abbrev en_span_Mul : Entry := ⟨(.pair tS (.pair tS tE)), (.pair tS tE), [], S.span_Mul, none⟩
noncomputable abbrev en_span_Meet : Entry := ⟨(.pair tS (.pair tS .unit)), (.pair tS tE), [], S.span_Meet, none⟩
noncomputable abbrev en_span_HasRatio : Entry := ⟨(.pair tS (.pair tR .unit)), (.pair .bool tE), [], S.span_HasRatio, none⟩
noncomputable abbrev en_mat_Check : Entry := ⟨(.pair (.sl lR) (.pair (.int .i64) tE)), tE, [], S.mat_Check, none⟩
noncomputable abbrev en_mat_Scale : Entry := ⟨(.pair (.sl lR) (.pair tR .unit)), (.pair (.sl lR) tE), [], S.mat_Scale, none⟩
noncomputable abbrev en_mat_Norm : Entry := ⟨(.pair (.sl lR) .unit), (.pair tR tE), [], S.mat_Norm, none⟩
noncomputable abbrev en_series_halves : Entry := ⟨(.pair tR .unit), (.pair (.int .i64) (.pair tR tE)), [], S.series_halves, none⟩
noncomputable abbrev en_series_small : Entry := ⟨(.pair (.sl lR) (.pair tR (.pair (.int .i64) tE))), (.pair (.pair (.sl lS) (.pair (.sl lS) .unit)) tE), [], S.series_small, none⟩
noncomputable abbrev en_series_Twice : Entry := ⟨(.pair (.pair (.sl lS) (.pair (.sl lS) .unit)) tE), (.pair (.pair (.sl lS) (.pair (.sl lS) .unit)) tE), [], S.series_Twice, none⟩
noncomputable abbrev en_vec_Unit : Entry := ⟨(.pair (.int .i64) tE), (.pair lR .unit), [some 28], S.vec_Unit, none⟩
noncomputable abbrev en_limbs_Of : Entry := ⟨(.pair (.int .u64) .unit), (.pair lU .unit), [], S.limbs_Of, none⟩
noncomputable abbrev en_grow_pair : Entry := ⟨(.pair tR tE), (.pair (.pair (.sl lS) (.pair (.sl lS) .unit)) tE), [], S.grow_pair, none⟩
noncomputable abbrev en_dyad_Ratio : Entry := ⟨(.pair tY .unit), (.pair tR tE), [], S.dyad_Ratio, none⟩
noncomputable abbrev en_ratio_Text : Entry := ⟨(.pair tR .unit), (.pair .str .unit), [], S.ratio_Text, none⟩
noncomputable abbrev en_whole_Check : Entry := ⟨(.pair tI .unit), tE, [], S.whole_Check, none⟩
noncomputable abbrev en_limbs_Check : Entry := ⟨(.pair lU .unit), tE, [], S.limbs_Check, none⟩
noncomputable abbrev en_limbs_Compare : Entry := ⟨(.pair lU (.pair lU .unit)), tE, [], S.limbs_Compare, none⟩
noncomputable abbrev en_digits_Gcd : Entry := ⟨(.pair lU (.pair lU .unit)), (.pair lU .unit), [], S.digits_Gcd, none⟩
noncomputable abbrev en_whole_Sign : Entry := ⟨(.pair tI .unit), tE, [], S.whole_Sign, none⟩
noncomputable abbrev en_vec_Zero : Entry := ⟨tE, (.pair lR .unit), [some 28], S.vec_Zero, none⟩
noncomputable abbrev en_whole_Mul : Entry := ⟨(.pair tI (.pair tI .unit)), tY, [], S.whole_Mul, none⟩
noncomputable abbrev en_ratio_den : Entry := ⟨(.pair tR .unit), (.pair tI .unit), [], S.ratio_den, none⟩
noncomputable abbrev en_ratio_first : Entry := ⟨(.pair (.sl (.int .i64)) .unit), tE, [], S.ratio_first, none⟩
noncomputable abbrev en_whole_Compare : Entry := ⟨(.pair tI (.pair tI .unit)), tE, [], S.whole_Compare, none⟩
noncomputable abbrev en_ratio_Make : Entry := ⟨(.pair tI (.pair tI .unit)), (.pair tR tE), [], S.ratio_Make, none⟩
noncomputable abbrev en_whole_Of : Entry := ⟨tE, (.pair tI .unit), [], S.whole_Of, none⟩
noncomputable abbrev en_dyad_Near : Entry := ⟨(.pair tR (.pair (.int .i64) (.pair .bool .unit))), (.pair tY tE), [], S.dyad_Near, none⟩
noncomputable abbrev en_dyad_Mul : Entry := ⟨tS, (.pair tY tE), [], S.dyad_Mul, none⟩
noncomputable abbrev en_dyad_Min : Entry := ⟨tS, (.pair tY .unit), [], S.dyad_Min, none⟩
noncomputable abbrev en_dyad_Max : Entry := ⟨tS, (.pair tY .unit), [], S.dyad_Max, none⟩
noncomputable abbrev en_span_out : Entry := ⟨(.pair tY (.pair tY tE)), (.pair tS tE), [], S.span_out, none⟩
noncomputable abbrev en_dyad_Less : Entry := ⟨tS, (.pair .bool .unit), [], S.dyad_Less, none⟩
noncomputable abbrev en_dyad_Cmp : Entry := ⟨(.pair tY (.pair tR .unit)), (.pair (.int .i64) tE), [], S.dyad_Cmp, none⟩
noncomputable abbrev en_vec_Check : Entry := ⟨(.pair lR tE), tE, [], S.vec_Check, none⟩
noncomputable abbrev en_vec_Scale : Entry := ⟨(.pair lR (.pair tR .unit)), (.pair lR tE), [], S.vec_Scale, none⟩
noncomputable abbrev en_ratio_Add : Entry := ⟨(.pair tR (.pair tR .unit)), (.pair tR tE), [], S.ratio_Add, none⟩
noncomputable abbrev en_ratio_Abs : Entry := ⟨(.pair tR .unit), (.pair tR .unit), [], S.ratio_Abs, none⟩
noncomputable abbrev en_limbs_Left : Entry := ⟨(.pair lU tE), (.pair lU tE), [], S.limbs_Left, none⟩
noncomputable abbrev en_whole_Nat : Entry := ⟨(.pair lU .unit), (.pair tI .unit), [], S.whole_Nat, none⟩
noncomputable abbrev en_mat_Near : Entry := ⟨(.pair (.sl lR) tE), (.pair (.sl lS) tE), [], S.mat_Near, none⟩
noncomputable abbrev en_series_Terms : Entry := ⟨tE, (.pair (.int .i64) (.pair tY .unit)), [], S.series_Terms, none⟩
noncomputable abbrev en_series_sums : Entry := ⟨(.pair (.sl lS) (.pair tR (.pair (.int .i64) (.pair tY tE)))), (.pair (.pair (.sl lS) (.pair (.sl lS) .unit)) tE), [], S.series_sums, none⟩
noncomputable abbrev en_mat_Times : Entry := ⟨(.pair (.sl lS) (.pair (.sl lS) tE)), (.pair (.sl lS) tE), [], S.mat_Times, none⟩
noncomputable abbrev en_mat_Plus : Entry := ⟨(.pair (.sl lS) (.pair (.sl lS) tE)), (.pair (.sl lS) tE), [], S.mat_Plus, none⟩
noncomputable abbrev en_limbs_trim : Entry := ⟨(.pair lU .unit), (.pair lU .unit), [], S.limbs_trim, none⟩
noncomputable abbrev en_grow_check : Entry := ⟨(.pair tR tE), tE, [], S.grow_check, none⟩
noncomputable abbrev en_whole_Left : Entry := ⟨tY, tY, [], S.whole_Left, none⟩
noncomputable abbrev en_ratio_Whole : Entry := ⟨(.pair tI .unit), (.pair tR .unit), [], S.ratio_Whole, none⟩
noncomputable abbrev en_whole_Text : Entry := ⟨(.pair tI .unit), (.pair .str .unit), [], S.whole_Text, none⟩
noncomputable abbrev en_digits_Text : Entry := ⟨(.pair lU .unit), (.pair .str .unit), [], S.digits_Text, none⟩
noncomputable abbrev en_limbs_Div : Entry := ⟨(.pair lU (.pair lU .unit)), (.pair lU (.pair lU tE)), [], S.limbs_Div, none⟩
noncomputable abbrev en_slices_Clone_api_Nat_uint32 : Entry := ⟨(.pair lU .unit), (.pair lU .unit), [none], S.slices_Clone_api_Nat_uint32, none⟩
noncomputable abbrev en_limbs_Mul : Entry := ⟨(.pair lU (.pair lU .unit)), (.pair lU tE), [], S.limbs_Mul, none⟩
noncomputable abbrev en_whole_of : Entry := ⟨tI, (.pair tI .unit), [], S.whole_of, none⟩
noncomputable abbrev en_limbs_Bits : Entry := ⟨(.pair lU .unit), tE, [], S.limbs_Bits, none⟩
noncomputable abbrev en_whole_Div : Entry := ⟨(.pair tI (.pair tI .unit)), (.pair tI tY), [], S.whole_Div, none⟩
noncomputable abbrev en_whole_Add : Entry := ⟨(.pair tI (.pair tI .unit)), tY, [], S.whole_Add, none⟩
noncomputable abbrev en_dyad_Make : Entry := ⟨tY, (.pair tY tE), [], S.dyad_Make, none⟩
noncomputable abbrev en_dyad_Round : Entry := ⟨(.pair tY (.pair (.int .i64) (.pair .bool .unit))), (.pair tY tE), [], S.dyad_Round, none⟩
noncomputable abbrev en_dyad_own : Entry := ⟨(.pair tY .unit), (.pair tY .unit), [], S.dyad_own, none⟩
noncomputable abbrev en_dyad_Compare : Entry := ⟨tS, tE, [], S.dyad_Compare, none⟩
noncomputable abbrev en_vec_each : Entry := ⟨(.pair lR (.pair lR (.pair (.fn (.pair tR (.pair tR .unit)) (.pair tR tE)) .unit))), (.pair lR tE), [], S.vec_each, none⟩
noncomputable abbrev en_vec_Scale_1 : Entry := ⟨(.pair tR (.pair tR (.pair (.ptr tR) .unit))), (.pair tR tE), [], S.vec_Scale_1, none⟩
noncomputable abbrev en_whole_Abs : Entry := ⟨(.pair tI .unit), (.pair tI .unit), [], S.whole_Abs, none⟩
noncomputable abbrev en_limbs_fits : Entry := ⟨(.pair lU .unit), (.pair lU tE), [], S.limbs_fits, none⟩
noncomputable abbrev en_vec_Near : Entry := ⟨(.pair lR tE), (.pair lS tE), [], S.vec_Near, none⟩
noncomputable abbrev en_series_divided : Entry := ⟨(.pair (.sl lS) (.pair (.int .i64) tE)), (.pair (.sl lS) tE), [], S.series_divided, none⟩
noncomputable abbrev en_mat_Even : Entry := ⟨(.pair (.int .i64) (.pair tY .unit)), (.pair (.sl lS) .unit), [], S.mat_Even, none⟩
noncomputable abbrev en_series_Scaled : Entry := ⟨(.pair (.sl lS) (.pair tS tE)), (.pair (.sl lS) tE), [], S.series_Scaled, none⟩
noncomputable abbrev en_mat_turn_api_Span : Entry := ⟨(.pair (.sl lS) .unit), (.pair (.sl lS) tE), [], S.mat_turn_api_Span, none⟩
noncomputable abbrev en_mat_grid_api_Span_shape : Entry := ⟨(.pair (.sl lS) .unit), (.pair (.int .i64) (.pair (.int .i64) tE)), [], S.mat_grid_api_Span_shape, none⟩
noncomputable abbrev en_vec_Inner : Entry := ⟨(.pair lS (.pair lS tE)), (.pair tS tE), [], S.vec_Inner, none⟩
noncomputable abbrev en_vec_Plus : Entry := ⟨(.pair lS (.pair lS tE)), (.pair lS tE), [], S.vec_Plus, none⟩
noncomputable abbrev en_limbs_Small : Entry := ⟨(.pair lU .unit), (.pair (.int .u64) tE), [], S.limbs_Small, none⟩
noncomputable abbrev en_slices_Reverse_s_byte_byte : Entry := ⟨(.pair (.sl (.int .u8)) (.pair (.int .i64) tE)), (.pair (.sl (.int .u8)) .unit), [], S.slices_Reverse_s_byte_byte, some 5⟩
noncomputable abbrev en_strings_TrimLeft : Entry := ⟨(.pair .str (.pair .str .unit)), (.pair .str .unit), [], S.strings_TrimLeft, none⟩
noncomputable abbrev en_limbs_short : Entry := ⟨(.pair lU (.pair (.int .u32) .unit)), (.pair lU (.pair (.int .u32) .unit)), [], S.limbs_short, none⟩
noncomputable abbrev en_limbs_long : Entry := ⟨(.pair lU (.pair lU .unit)), (.pair lU (.pair lU .unit)), [], S.limbs_long, none⟩
noncomputable abbrev en_bits_Len32 : Entry := ⟨(.pair (.int .u32) .unit), tE, [], S.bits_Len32, none⟩
noncomputable abbrev en_limbs_Sub : Entry := ⟨(.pair lU (.pair lU .unit)), (.pair lU tE), [], S.limbs_Sub, none⟩
noncomputable abbrev en_limbs_Add : Entry := ⟨(.pair lU (.pair lU .unit)), (.pair lU tE), [], S.limbs_Add, none⟩
noncomputable abbrev en_limbs_Tail : Entry := ⟨(.pair lU .unit), tE, [], S.limbs_Tail, none⟩
noncomputable abbrev en_whole_Right : Entry := ⟨tY, tY, [], S.whole_Right, none⟩
noncomputable abbrev en_whole_Neg : Entry := ⟨(.pair tI .unit), (.pair tI .unit), [], S.whole_Neg, none⟩
noncomputable abbrev en_dyad_Sign : Entry := ⟨(.pair tY .unit), tE, [], S.dyad_Sign, none⟩
noncomputable abbrev en_dyad_top : Entry := ⟨(.pair tY .unit), tE, [], S.dyad_top, none⟩
noncomputable abbrev en_dyad_level : Entry := ⟨tS, (.pair tI (.pair tI (.pair (.int .i64) tE))), [], S.dyad_level, none⟩
noncomputable abbrev en_span_Even : Entry := ⟨(.pair tY .unit), (.pair tS .unit), [], S.span_Even, none⟩
noncomputable abbrev en_vec_Times : Entry := ⟨(.pair lS (.pair tS tE)), (.pair lS tE), [], S.vec_Times, none⟩
noncomputable abbrev en_span_Add : Entry := ⟨(.pair tS (.pair tS tE)), (.pair tS tE), [], S.span_Add, none⟩
noncomputable abbrev en_strings_trimLeftByte : Entry := ⟨(.pair .str (.pair (.int .u8) .unit)), (.pair .str .unit), [], S.strings_trimLeftByte, none⟩
noncomputable abbrev en_strings_makeASCIISet : Entry := ⟨.unit, .unit, [], fun _ => none, none⟩
noncomputable abbrev en_bits_LeadingZeros32 : Entry := ⟨(.pair (.int .u32) .unit), tE, [], S.bits_LeadingZeros32, none⟩
noncomputable abbrev en_limbs_moved : Entry := ⟨(.pair lU tE), (.pair lU .unit), [some 110], S.limbs_moved, none⟩
noncomputable abbrev en_limbs_less : Entry := ⟨(.pair lU (.pair (.int .i64) (.pair (.int .i64) (.pair lU (.pair (.int .u64) .unit))))), (.pair lU (.pair .bool .unit)), [], S.limbs_less, some 110⟩
noncomputable abbrev en_limbs_back : Entry := ⟨(.pair lU (.pair (.int .i64) (.pair (.int .i64) (.pair lU .unit)))), (.pair lU .unit), [], S.limbs_back, some 110⟩
noncomputable abbrev en_limbs_Right : Entry := ⟨(.pair lU tE), (.pair lU tE), [], S.limbs_Right, none⟩
noncomputable abbrev en_bits_TrailingZeros32 : Entry := ⟨(.pair (.int .u32) .unit), tE, [], S.bits_TrailingZeros32, none⟩
noncomputable abbrev en_dyad_Abs : Entry := ⟨(.pair tY .unit), (.pair tY .unit), [], S.dyad_Abs, none⟩
noncomputable abbrev en_dyad_Neg : Entry := ⟨(.pair tY .unit), (.pair tY .unit), [], S.dyad_Neg, none⟩
noncomputable abbrev en_dyad_Add : Entry := ⟨tS, (.pair tY tE), [], S.dyad_Add, none⟩
noncomputable def Γ_whole_Sign : Env := { T := T, Φ := fun i => none, ann := fun i => [] }
theorem whole_Sign_eq (K : Nat) (a : dI) : exF Γ_whole_Sign K Tryz.f36 (.pair tI .unit) tE [] (a, ()) = whole_Sign a := by kernel_rfl
theorem env_whole_Sign : EnvOK Tryz.prog G Γ_whole_Sign := ⟨T_ok, (phi_nil : PhiOK Tryz.prog G Γ_whole_Sign.Φ), fun _ _ h => (by cases h), mixed⟩
theorem fn_whole_Sign : FnOK Tryz.prog G 36 en_whole_Sign := FnOK.of env_whole_Sign Tryz.func36 (by kernel_rfl) (by kernel_rfl) (of_decide_eq_true (by kernel_rfl)) (fun x y h => ⟨0, (whole_Sign_eq 0 x.1).trans h⟩)

noncomputable def Γ_ratio_Sign : Env := { T := T, Φ := fun i => bif Nat.beq i 36 then some en_whole_Sign else none, ann := fun i => [] }
theorem ratio_Sign_eq (K : Nat) (a : dR) : exF Γ_ratio_Sign K Tryz.f10 (.pair tR .unit) tE [] (a, ()) = ratio_Sign a := by kernel_rfl
theorem env_ratio_Sign : EnvOK Tryz.prog G Γ_ratio_Sign := ⟨T_ok, ((phi_cons fn_whole_Sign phi_nil) : PhiOK Tryz.prog G Γ_ratio_Sign.Φ), fun _ _ h => (by cases h), mixed⟩
theorem fn_ratio_Sign : FnOK Tryz.prog G 10 en_ratio_Sign := FnOK.of env_ratio_Sign Tryz.func10 (by kernel_rfl) (by kernel_rfl) (of_decide_eq_true (by kernel_rfl)) (fun x y h => ⟨0, (ratio_Sign_eq 0 x.1).trans h⟩)

noncomputable def Γ_limbs_trim : Env := { T := T, Φ := fun i => none, ann := fun i => bif Nat.beq i 2 then [(0, .c (.data (.int .u32))), (3, .c .sc)] else [] }
noncomputable def limbs_trim_c : Code := (Tryz.f62.body).getD .skip
noncomputable def limbs_trim_fin := finish Γ_limbs_trim Tryz.f62.results.toList (.pair lU .unit) []
noncomputable def limbs_trim_k0 (κ : Kt (.pair lU .unit)) (a : List Int) (b : Int) := κ { t := (upd (upd (fun _ => .undef) 0 (.one (.sl (.int .u32) a))) 3 (.one (.int .i64 b))), m := (upd (fun _ => .free) 0 .held), nx := 1000000, n := 22 }
noncomputable def limbs_trim_A0 (K : Nat) := loopAt Γ_limbs_trim K [.r, .r, .l, .b] limbs_trim_c [] limbs_trim_fin (fun _ _ => none) limbs_trim_fin
theorem limbs_trim_loop0 (K : Nat) : ∀ n, limbs_trim_k0 (limbs_trim_A0 K n) = limbs_trim_l0 K n
  | 0 => by kernel_rfl
  | n + 1 => Eq.trans (b := limbs_trim_s0 (limbs_trim_k0 (limbs_trim_A0 K n))) (by kernel_rfl) (by rw [limbs_trim_loop0 K n]; rfl)
theorem limbs_trim_eq (K : Nat) (a : List Int) : exF Γ_limbs_trim K Tryz.f62 (.pair lU .unit) (.pair lU .unit) [] (a, ()) = limbs_trim K a :=
  Eq.trans (b := limbs_trim_b (limbs_trim_k0 (limbs_trim_A0 K K)) a) (by kernel_rfl) (by rw [limbs_trim_loop0 K K]; rfl)
theorem env_limbs_trim : EnvOK Tryz.prog G Γ_limbs_trim := ⟨T_ok, (phi_nil : PhiOK Tryz.prog G Γ_limbs_trim.Φ), fun _ _ h => (by cases h), mixed⟩
theorem fn_limbs_trim : FnOK Tryz.prog G 62 en_limbs_trim := FnOK.of env_limbs_trim Tryz.func62 (by kernel_rfl) (by kernel_rfl) (of_decide_eq_true (by kernel_rfl)) (fun x y h => by obtain ⟨K, hK⟩ := limbs_trim_ok x y h; exact ⟨K, (limbs_trim_eq K x.1).trans hK⟩)

noncomputable def Γ_limbs_Of : Env := { T := T, Φ := fun i => bif Nat.beq i 62 then some en_limbs_trim else none, ann := fun i => [] }
theorem limbs_Of_eq (K : Nat) (n : Int) : exF Γ_limbs_Of K Tryz.f28 (.pair (.int .u64) .unit) (.pair lU .unit) [] (n, ()) = limbs_Of n := by kernel_rfl
theorem env_limbs_Of : EnvOK Tryz.prog G Γ_limbs_Of := ⟨T_ok, ((phi_cons fn_limbs_trim phi_nil) : PhiOK Tryz.prog G Γ_limbs_Of.Φ), fun _ _ h => (by cases h), mixed⟩
theorem fn_limbs_Of : FnOK Tryz.prog G 28 en_limbs_Of := FnOK.of env_limbs_Of Tryz.func28 (by kernel_rfl) (by kernel_rfl) (of_decide_eq_true (by kernel_rfl)) (fun x y h => ⟨0, (limbs_Of_eq 0 x.1).trans h⟩)

noncomputable def Γ_limbs_Check : Env := { T := T, Φ := fun i => none, ann := fun i => [] }
theorem limbs_Check_eq (K : Nat) (a : List Int) : exF Γ_limbs_Check K Tryz.f33 (.pair lU .unit) tE [] (a, ()) = limbs_Check a := by kernel_rfl
theorem env_limbs_Check : EnvOK Tryz.prog G Γ_limbs_Check := ⟨T_ok, (phi_nil : PhiOK Tryz.prog G Γ_limbs_Check.Φ), fun _ _ h => (by cases h), mixed⟩
theorem fn_limbs_Check : FnOK Tryz.prog G 33 en_limbs_Check := FnOK.of env_limbs_Check Tryz.func33 (by kernel_rfl) (by kernel_rfl) (of_decide_eq_true (by kernel_rfl)) (fun x y h => ⟨0, (limbs_Check_eq 0 x.1).trans h⟩)

noncomputable def Γ_whole_Check : Env := { T := T, Φ := fun i => bif Nat.beq i 33 then some en_limbs_Check else none, ann := fun i => [] }
theorem whole_Check_eq (K : Nat) (a : dI) : exF Γ_whole_Check K Tryz.f32 (.pair tI .unit) tE [] (a, ()) = whole_Check a := by kernel_rfl
theorem env_whole_Check : EnvOK Tryz.prog G Γ_whole_Check := ⟨T_ok, ((phi_cons fn_limbs_Check phi_nil) : PhiOK Tryz.prog G Γ_whole_Check.Φ), fun _ _ h => (by cases h), mixed⟩
theorem fn_whole_Check : FnOK Tryz.prog G 32 en_whole_Check := FnOK.of env_whole_Check Tryz.func32 (by kernel_rfl) (by kernel_rfl) (of_decide_eq_true (by kernel_rfl)) (fun x y h => ⟨0, (whole_Check_eq 0 x.1).trans h⟩)

theorem fn_limbs_short : FnOK Tryz.prog G 96 ⟨(.pair lU (.pair (.int .u32) .unit)), (.pair lU (.pair (.int .u32) .unit)), [], S.limbs_short, none⟩ := fn_limbs_short_of fn_limbs_trim

noncomputable def Γ_bits_Len32 : Env := { T := T, Φ := fun i => none, ann := fun i => [] }
theorem bits_Len32_eq (K : Nat) (x : Int) : exF Γ_bits_Len32 K Tryz.f98 (.pair (.int .u32) .unit) tE [] (x, ()) = bits_Len32 x := by kernel_rfl
theorem env_bits_Len32 : EnvOK Tryz.prog G Γ_bits_Len32 := ⟨T_ok, (phi_nil : PhiOK Tryz.prog G Γ_bits_Len32.Φ), fun _ _ h => (by cases h), mixed⟩
theorem fn_bits_Len32 : FnOK Tryz.prog G 98 en_bits_Len32 := FnOK.of env_bits_Len32 Tryz.func98 (by kernel_rfl) (by kernel_rfl) (of_decide_eq_true (by kernel_rfl)) (fun x y h => ⟨0, (bits_Len32_eq 0 x.1).trans h⟩)

noncomputable def Γ_bits_LeadingZeros32 : Env := { T := T, Φ := fun i => bif Nat.beq i 98 then some en_bits_Len32 else none, ann := fun i => [] }
theorem bits_LeadingZeros32_eq (K : Nat) (x : Int) : exF Γ_bits_LeadingZeros32 K Tryz.f114 (.pair (.int .u32) .unit) tE [] (x, ()) = bits_LeadingZeros32 x := by kernel_rfl
theorem env_bits_LeadingZeros32 : EnvOK Tryz.prog G Γ_bits_LeadingZeros32 := ⟨T_ok, ((phi_cons fn_bits_Len32 phi_nil) : PhiOK Tryz.prog G Γ_bits_LeadingZeros32.Φ), fun _ _ h => (by cases h), mixed⟩
theorem fn_bits_LeadingZeros32 : FnOK Tryz.prog G 114 en_bits_LeadingZeros32 := FnOK.of env_bits_LeadingZeros32 Tryz.func114 (by kernel_rfl) (by kernel_rfl) (of_decide_eq_true (by kernel_rfl)) (fun x y h => ⟨0, (bits_LeadingZeros32_eq 0 x.1).trans h⟩)

noncomputable def Γ_limbs_moved : Env := { T := T, Φ := fun i => none, ann := fun i => bif Nat.beq i 3 then [(1, .c .sc), (5, .c (.own 100 110 (.int .u32))), (13, .c (.data (.int .u32))), (14, .c .sc), (15, .c .sc)] else [] }
noncomputable def limbs_moved_c : Code := (Tryz.f115.body).getD .skip
noncomputable def limbs_moved_fin := finish Γ_limbs_moved Tryz.f115.results.toList (.pair lU .unit) [some 110]
noncomputable def limbs_moved_k0 (κ : Kt (.pair lU .unit)) (a : Int) (b c : List Int) (d e : Int) := κ { t := (upd (upd (upd (upd (upd (fun _ => .undef) 1 (.one (.int .i64 a))) 5 (.one (.own 100))) 13 (.one (.sl (.int .u32) c))) 14 (.one (.int .i64 d))) 15 (.one (.int .i64 e))), m := (upd (upd (fun _ => .free) 0 .held) 100 (.row true 110 (.int .u32) b)), nx := 1000000, n := 41 }
noncomputable def limbs_moved_A0 (K : Nat) := loopAt Γ_limbs_moved K [.r, .r, .l, .r, .b] limbs_moved_c [] limbs_moved_fin (fun _ _ => none) limbs_moved_fin
theorem limbs_moved_loop0 (K : Nat) : ∀ n, limbs_moved_k0 (limbs_moved_A0 K n) = limbs_moved_l0 K n
  | 0 => by kernel_rfl
  | n + 1 => Eq.trans (b := limbs_moved_s0 (limbs_moved_k0 (limbs_moved_A0 K n))) (by kernel_rfl) (by rw [limbs_moved_loop0 K n]; rfl)
theorem limbs_moved_eq (K : Nat) (a : List Int) (shift : Int) : exF Γ_limbs_moved K Tryz.f115 (.pair lU tE) (.pair lU .unit) [some 110] (a, shift, ()) = limbs_moved K a shift :=
  Eq.trans (b := limbs_moved_b (limbs_moved_k0 (limbs_moved_A0 K K)) a shift) (by kernel_rfl) (by rw [limbs_moved_loop0 K K]; rfl)
theorem env_limbs_moved : EnvOK Tryz.prog G Γ_limbs_moved := ⟨T_ok, (phi_nil : PhiOK Tryz.prog G Γ_limbs_moved.Φ), fun _ _ h => (by cases h), mixed⟩
theorem fn_limbs_moved : FnOK Tryz.prog G 115 en_limbs_moved := FnOK.of env_limbs_moved Tryz.func115 (by kernel_rfl) (by kernel_rfl) (of_decide_eq_true (by kernel_rfl)) (fun x y h => by obtain ⟨K, hK⟩ := limbs_moved_ok x y h; exact ⟨K, (limbs_moved_eq K x.1 x.2.1).trans hK⟩)

noncomputable def Γ_limbs_less : Env := { T := T, Φ := fun i => none, ann := fun i => bif Nat.beq i 3 then [(0, .c .win), (1, .c (.data (.int .u32))), (2, .c .sc), (7, .c .sc), (8, .c .sc), (13, .c (.data (.int .u32))), (14, .c .sc), (15, .c .sc)] else [] }
noncomputable def limbs_less_c : Code := (Tryz.f116.body).getD .skip
noncomputable def limbs_less_fin := finishW Γ_limbs_less 110 Tryz.f116.results.toList (.pair lU (.pair .bool .unit)) []
noncomputable def limbs_less_k0 (κ : Kt (.pair lU (.pair .bool .unit))) (a : List Int) (b c : Nat) (d : List Int) (e f g : Int) (h : List Int) (i j : Int) := κ { t := (upd (upd (upd (upd (upd (upd (upd (upd (fun _ => .undef) 0 (.one (.sub 0 b c))) 1 (.one (.sl (.int .u32) d))) 2 (.one (.int .u64 e))) 7 (.one (.int .u64 f))) 8 (.one (.int .u64 g))) 13 (.one (.sl (.int .u32) h))) 14 (.one (.int .i64 i))) 15 (.one (.int .i64 j))), m := (upd (upd (fun _ => .free) 0 .held) 0 (.row true 110 (.int .u32) a)), nx := 1000000, n := 66 }
noncomputable def limbs_less_A0 (K : Nat) := loopAt Γ_limbs_less K [.r, .r, .l, .r, .b] limbs_less_c [] limbs_less_fin (fun _ _ => none) limbs_less_fin
theorem limbs_less_loop0 (K : Nat) : ∀ n, limbs_less_k0 (limbs_less_A0 K n) = limbs_less_l0 K n
  | 0 => by kernel_rfl
  | n + 1 => Eq.trans (b := limbs_less_s0 (limbs_less_k0 (limbs_less_A0 K n))) (by kernel_rfl) (by rw [limbs_less_loop0 K n]; rfl)
theorem limbs_less_eq (K : Nat) (u : List Int) (off : Int) (len : Int) (v : List Int) (digit : Int) : exW Γ_limbs_less K Tryz.f116 110 (.pair lU (.pair (.int .i64) (.pair (.int .i64) (.pair lU (.pair (.int .u64) .unit))))) (.pair lU (.pair .bool .unit)) [] (u, off, len, v, digit, ()) = limbs_less K u off len v digit :=
  Eq.trans (b := limbs_less_b (limbs_less_k0 (limbs_less_A0 K K)) u off len v digit) (by kernel_rfl) (by rw [limbs_less_loop0 K K]; rfl)
theorem env_limbs_less : EnvOK Tryz.prog G Γ_limbs_less := ⟨T_ok, (phi_nil : PhiOK Tryz.prog G Γ_limbs_less.Φ), fun _ _ h => (by cases h), mixed⟩
theorem fn_limbs_less : FnOK Tryz.prog G 116 en_limbs_less := FnOK.ofW env_limbs_less Tryz.func116 (by kernel_rfl) (by kernel_rfl) (of_decide_eq_true (by kernel_rfl)) limbs_less_len (fun x y h => by obtain ⟨K, hK⟩ := limbs_less_ok x y h; exact ⟨K, (limbs_less_eq K x.1 x.2.1 x.2.2.1 x.2.2.2.1 x.2.2.2.2.1).trans hK⟩)

noncomputable def Γ_limbs_back : Env := { T := T, Φ := fun i => none, ann := fun i => bif Nat.beq i 2 then [(0, .c .win), (1, .c (.data (.int .u32))), (4, .c .sc), (7, .c (.data (.int .u32))), (8, .c .sc), (9, .c .sc)] else [] }
noncomputable def limbs_back_c : Code := (Tryz.f117.body).getD .skip
noncomputable def limbs_back_fin := finishW Γ_limbs_back 110 Tryz.f117.results.toList (.pair lU .unit) []
noncomputable def limbs_back_k0 (κ : Kt (.pair lU .unit)) (a : List Int) (b c : Nat) (d : List Int) (e : Int) (f : List Int) (g h : Int) := κ { t := (upd (upd (upd (upd (upd (upd (fun _ => .undef) 0 (.one (.sub 0 b c))) 1 (.one (.sl (.int .u32) d))) 4 (.one (.int .u64 e))) 7 (.one (.sl (.int .u32) f))) 8 (.one (.int .i64 g))) 9 (.one (.int .i64 h))), m := (upd (upd (fun _ => .free) 0 .held) 0 (.row true 110 (.int .u32) a)), nx := 1000000, n := 41 }
noncomputable def limbs_back_A0 (K : Nat) := loopAt Γ_limbs_back K [.r, .l, .r, .b] limbs_back_c [] limbs_back_fin (fun _ _ => none) limbs_back_fin
theorem limbs_back_loop0 (K : Nat) : ∀ n, limbs_back_k0 (limbs_back_A0 K n) = limbs_back_l0 K n
  | 0 => by kernel_rfl
  | n + 1 => Eq.trans (b := limbs_back_s0 (limbs_back_k0 (limbs_back_A0 K n))) (by kernel_rfl) (by rw [limbs_back_loop0 K n]; rfl)
theorem limbs_back_eq (K : Nat) (u : List Int) (off : Int) (len : Int) (v : List Int) : exW Γ_limbs_back K Tryz.f117 110 (.pair lU (.pair (.int .i64) (.pair (.int .i64) (.pair lU .unit)))) (.pair lU .unit) [] (u, off, len, v, ()) = limbs_back K u off len v :=
  Eq.trans (b := limbs_back_b (limbs_back_k0 (limbs_back_A0 K K)) u off len v) (by kernel_rfl) (by rw [limbs_back_loop0 K K]; rfl)
theorem env_limbs_back : EnvOK Tryz.prog G Γ_limbs_back := ⟨T_ok, (phi_nil : PhiOK Tryz.prog G Γ_limbs_back.Φ), fun _ _ h => (by cases h), mixed⟩
theorem fn_limbs_back : FnOK Tryz.prog G 117 en_limbs_back := FnOK.ofW env_limbs_back Tryz.func117 (by kernel_rfl) (by kernel_rfl) (of_decide_eq_true (by kernel_rfl)) limbs_back_len (fun x y h => by obtain ⟨K, hK⟩ := limbs_back_ok x y h; exact ⟨K, (limbs_back_eq K x.1 x.2.1 x.2.2.1 x.2.2.2.1).trans hK⟩)

noncomputable def Γ_limbs_fits : Env := { T := T, Φ := fun i => bif Nat.beq i 62 then some en_limbs_trim else none, ann := fun i => [] }
theorem limbs_fits_eq (K : Nat) (a : List Int) : exF Γ_limbs_fits K Tryz.f83 (.pair lU .unit) (.pair lU tE) [] (a, ()) = limbs_fits a := by kernel_rfl
theorem env_limbs_fits : EnvOK Tryz.prog G Γ_limbs_fits := ⟨T_ok, ((phi_cons fn_limbs_trim phi_nil) : PhiOK Tryz.prog G Γ_limbs_fits.Φ), fun _ _ h => (by cases h), mixed⟩
theorem fn_limbs_fits : FnOK Tryz.prog G 83 en_limbs_fits := FnOK.of env_limbs_fits Tryz.func83 (by kernel_rfl) (by kernel_rfl) (of_decide_eq_true (by kernel_rfl)) (fun x y h => ⟨0, (limbs_fits_eq 0 x.1).trans h⟩)

noncomputable def Γ_limbs_Right : Env := { T := T, Φ := fun i => bif Nat.beq i 83 then some en_limbs_fits else none, ann := fun i => bif Nat.beq i 7 then [(0, .c (.data (.int .u32))), (1, .c .sc), (6, .c (.own 100 110 (.int .u32))), (23, .c .sc), (24, .c .sc)] else [] }
noncomputable def limbs_Right_c : Code := (Tryz.f118.body).getD .skip
noncomputable def limbs_Right_fin := finish Γ_limbs_Right Tryz.f118.results.toList (.pair lU tE) []
noncomputable def limbs_Right_k0 (κ : Kt (.pair lU tE)) (a : List Int) (b : Int) (c : List Int) (d e : Int) := κ { t := (upd (upd (upd (upd (upd (fun _ => .undef) 0 (.one (.sl (.int .u32) a))) 1 (.one (.int .i64 b))) 6 (.one (.own 100))) 23 (.one (.int .i64 d))) 24 (.one (.int .i64 e))), m := (upd (upd (fun _ => .free) 0 .held) 100 (.row true 110 (.int .u32) c)), nx := 1000000, n := 68 }
noncomputable def limbs_Right_A0 (K : Nat) := loopAt Γ_limbs_Right K [.r, .r, .r, .r, .l, .r, .b] limbs_Right_c [] limbs_Right_fin (fun _ _ => none) limbs_Right_fin
theorem limbs_Right_loop0 (K : Nat) : ∀ n, limbs_Right_k0 (limbs_Right_A0 K n) = limbs_Right_l0 K n
  | 0 => by kernel_rfl
  | n + 1 => Eq.trans (b := limbs_Right_s0 (limbs_Right_k0 (limbs_Right_A0 K n))) (by kernel_rfl) (by rw [limbs_Right_loop0 K n]; rfl)
theorem limbs_Right_eq (K : Nat) (a : List Int) (n : Int) : exF Γ_limbs_Right K Tryz.f118 (.pair lU tE) (.pair lU tE) [] (a, n, ()) = limbs_Right K a n :=
  Eq.trans (b := limbs_Right_b (limbs_Right_k0 (limbs_Right_A0 K K)) a n) (by kernel_rfl) (by rw [limbs_Right_loop0 K K]; rfl)
theorem env_limbs_Right : EnvOK Tryz.prog G Γ_limbs_Right := ⟨T_ok, ((phi_cons fn_limbs_fits phi_nil) : PhiOK Tryz.prog G Γ_limbs_Right.Φ), fun _ _ h => (by cases h), mixed⟩
theorem fn_limbs_Right : FnOK Tryz.prog G 118 en_limbs_Right := FnOK.of env_limbs_Right Tryz.func118 (by kernel_rfl) (by kernel_rfl) (of_decide_eq_true (by kernel_rfl)) (fun x y h => by obtain ⟨K, hK⟩ := limbs_Right_ok x y h; exact ⟨K, (limbs_Right_eq K x.1 x.2.1).trans hK⟩)

noncomputable def Γ_limbs_long : Env := { T := T, Φ := fun i => bif Nat.beq i 62 then some en_limbs_trim else bif Nat.beq i 114 then some en_bits_LeadingZeros32 else bif Nat.beq i 115 then some en_limbs_moved else bif Nat.beq i 116 then some en_limbs_less else bif Nat.beq i 117 then some en_limbs_back else bif Nat.beq i 118 then some en_limbs_Right else none, ann := fun i => bif Nat.beq i 7 then [(6, .c .sc), (7, .c (.data (.int .u32))), (8, .c (.own 100 110 (.int .u32))), (9, .c (.own 101 110 (.int .u32))), (10, .c .sc), (11, .c .sc)] else bif Nat.beq i 11 then [(6, .c .sc), (7, .c (.data (.int .u32))), (8, .c (.own 100 110 (.int .u32))), (9, .c (.own 101 110 (.int .u32))), (10, .c .sc), (11, .c .sc), (13, .c .sc), (14, .c .sc)] else [], ord := fun i => bif Nat.beq i 9 then [0, 1, 2, 3, 4, 5, 6, 7, 8, 9, 10, 11, 12, 13, 14, 15, 16, 17] else bif Nat.beq i 10 then [0, 1, 2, 3, 4, 5, 6, 7, 8, 9, 10, 11, 12, 13, 14, 15, 16, 17] else bif Nat.beq i 11 then [0, 1, 2, 3, 4, 5, 6, 7, 8, 9, 10, 11, 12, 13, 14, 15, 16, 17, 18, 19, 20, 21, 22, 23, 24] else [] }
noncomputable def limbs_long_c : Code := (Tryz.f97.body).getD .skip
noncomputable def limbs_long_fin := finish Γ_limbs_long Tryz.f97.results.toList (.pair lU (.pair lU .unit)) []
noncomputable def limbs_long_k0 (κ : Kt (.pair lU (.pair lU .unit))) (a : Int) (b c d : List Int) (e f : Int) := κ { t := (upd (upd (upd (upd (upd (upd (fun _ => .undef) 6 (.one (.int .i64 a))) 7 (.one (.sl (.int .u32) b))) 8 (.one (.own 100))) 9 (.one (.own 101))) 10 (.one (.int .i64 e))) 11 (.one (.int .i64 f))), m := (upd (upd (upd (fun _ => .free) 0 .held) 100 (.row true 110 (.int .u32) c)) 101 (.row true 110 (.int .u32) d)), nx := 1000000, n := 156 }
noncomputable def limbs_long_k1 (κ : Kt (.pair lU (.pair lU .unit))) (a : Int) (b c d : List Int) (e f g h : Int) := κ { t := (upd (upd (upd (upd (upd (upd (upd (upd (fun _ => .undef) 6 (.one (.int .i64 a))) 7 (.one (.sl (.int .u32) b))) 8 (.one (.own 100))) 9 (.one (.own 101))) 10 (.one (.int .i64 e))) 11 (.one (.int .i64 f))) 13 (.one (.int .u64 g))) 14 (.one (.int .u64 h))), m := (upd (upd (upd (fun _ => .free) 0 .held) 100 (.row true 110 (.int .u32) c)) 101 (.row true 110 (.int .u32) d)), nx := 1000000, n := 156 }
noncomputable def limbs_long_A1 (K : Nat) (κ0 : Kt (.pair lU (.pair lU .unit))) := loopAt Γ_limbs_long K [.r, .r, .r, .r, .r, .r, .l, .r, .b, .c, .r, .l, .b, .r, .r, .l, .b] limbs_long_c [fun st => mask [(6, .c .sc), (7, .c (.data (.int .u32))), (8, .c (.own 100 110 (.int .u32))), (9, .c (.own 101 110 (.int .u32))), (10, .c .sc), (11, .c .sc)] 1000000 st (κ0)] limbs_long_fin (fun _ _ => none) limbs_long_fin
theorem limbs_long_loop1 (K : Nat) (κ0 : Kt (.pair lU (.pair lU .unit))) : ∀ n, limbs_long_k1 (limbs_long_A1 K κ0 n) = limbs_long_l1 K (limbs_long_k0 κ0) n
  | 0 => by kernel_rfl
  | n + 1 => Eq.trans (b := limbs_long_s1 (limbs_long_k0 κ0) (limbs_long_k1 (limbs_long_A1 K κ0 n))) (by kernel_rfl) (by rw [limbs_long_loop1 K κ0 n]; rfl)
noncomputable def limbs_long_A0 (K : Nat) := loopAt Γ_limbs_long K [.r, .r, .r, .r, .r, .r, .l, .r, .b] limbs_long_c [] limbs_long_fin (fun _ _ => none) limbs_long_fin
theorem limbs_long_loop0 (K : Nat) : ∀ n, limbs_long_k0 (limbs_long_A0 K n) = limbs_long_l0 K n
  | 0 => by kernel_rfl
  | n + 1 => Eq.trans (b := limbs_long_s0 (limbs_long_k1 (limbs_long_A1 K (limbs_long_A0 K n) K)) (limbs_long_k0 (limbs_long_A0 K n))) (by kernel_rfl) (by rw [limbs_long_loop1 K (limbs_long_A0 K n) K, limbs_long_loop0 K n]; rfl)
theorem limbs_long_eq (K : Nat) (a : List Int) (b : List Int) : exF Γ_limbs_long K Tryz.f97 (.pair lU (.pair lU .unit)) (.pair lU (.pair lU .unit)) [] (a, b, ()) = limbs_long K a b :=
  Eq.trans (b := limbs_long_b (limbs_long_k0 (limbs_long_A0 K K)) a b) (by kernel_rfl) (by rw [limbs_long_loop0 K K]; rfl)
theorem env_limbs_long : EnvOK Tryz.prog G Γ_limbs_long := ⟨T_ok, ((phi_cons fn_limbs_trim (phi_cons fn_bits_LeadingZeros32 (phi_cons fn_limbs_moved (phi_cons fn_limbs_less (phi_cons fn_limbs_back (phi_cons fn_limbs_Right phi_nil)))))) : PhiOK Tryz.prog G Γ_limbs_long.Φ), fun _ _ h => (by cases h), mixed⟩
theorem fn_limbs_long : FnOK Tryz.prog G 97 en_limbs_long := FnOK.of env_limbs_long Tryz.func97 (by kernel_rfl) (by kernel_rfl) (of_decide_eq_true (by kernel_rfl)) (fun x y h => by obtain ⟨K, hK⟩ := limbs_long_ok x y h; exact ⟨K, (limbs_long_eq K x.1 x.2.1).trans hK⟩)

noncomputable def Γ_limbs_Div : Env := { T := T, Φ := fun i => bif Nat.beq i 28 then some en_limbs_Of else bif Nat.beq i 34 then some en_limbs_Compare else bif Nat.beq i 70 then some en_slices_Clone_api_Nat_uint32 else bif Nat.beq i 96 then some en_limbs_short else bif Nat.beq i 97 then some en_limbs_long else none, ann := fun i => [] }
theorem limbs_Div_eq (K : Nat) (a : List Int) (b : List Int) : exF Γ_limbs_Div K Tryz.f69 (.pair lU (.pair lU .unit)) (.pair lU (.pair lU tE)) [] (a, b, ()) = limbs_Div a b := by kernel_rfl
theorem env_limbs_Div : EnvOK Tryz.prog G Γ_limbs_Div := ⟨T_ok, ((phi_cons fn_limbs_Of (phi_cons fn_limbs_Compare (phi_cons fn_slices_Clone_api_Nat_uint32 (phi_cons fn_limbs_short (phi_cons fn_limbs_long phi_nil))))) : PhiOK Tryz.prog G Γ_limbs_Div.Φ), fun _ _ h => (by cases h), mixed⟩
theorem fn_limbs_Div : FnOK Tryz.prog G 69 en_limbs_Div := FnOK.of env_limbs_Div Tryz.func69 (by kernel_rfl) (by kernel_rfl) (of_decide_eq_true (by kernel_rfl)) (fun x y h => ⟨0, (limbs_Div_eq 0 x.1 x.2.1).trans h⟩)

noncomputable def Γ_digits_Gcd : Env := { T := T, Φ := fun i => bif Nat.beq i 69 then some en_limbs_Div else bif Nat.beq i 70 then some en_slices_Clone_api_Nat_uint32 else none, ann := fun i => bif Nat.beq i 1 then [(0, .c (.data (.int .u32))), (1, .c (.data (.int .u32)))] else [] }
noncomputable def digits_Gcd_c : Code := (Tryz.f35.body).getD .skip
noncomputable def digits_Gcd_fin := finish Γ_digits_Gcd Tryz.f35.results.toList (.pair lU .unit) []
noncomputable def digits_Gcd_k0 (κ : Kt (.pair lU .unit)) (a b : List Int) := κ { t := (upd (upd (fun _ => .undef) 0 (.one (.sl (.int .u32) a))) 1 (.one (.sl (.int .u32) b))), m := (upd (fun _ => .free) 0 .held), nx := 1000000, n := 22 }
noncomputable def digits_Gcd_A0 (K : Nat) := loopAt Γ_digits_Gcd K [.r, .l, .b] digits_Gcd_c [] digits_Gcd_fin (fun _ _ => none) digits_Gcd_fin
theorem digits_Gcd_loop0 (K : Nat) : ∀ n, digits_Gcd_k0 (digits_Gcd_A0 K n) = digits_Gcd_l0 K n
  | 0 => by kernel_rfl
  | n + 1 => Eq.trans (b := digits_Gcd_s0 (digits_Gcd_k0 (digits_Gcd_A0 K n))) (by kernel_rfl) (by rw [digits_Gcd_loop0 K n]; rfl)
theorem digits_Gcd_eq (K : Nat) (a : List Int) (b : List Int) : exF Γ_digits_Gcd K Tryz.f35 (.pair lU (.pair lU .unit)) (.pair lU .unit) [] (a, b, ()) = digits_Gcd K a b :=
  Eq.trans (b := digits_Gcd_b (digits_Gcd_k0 (digits_Gcd_A0 K K)) a b) (by kernel_rfl) (by rw [digits_Gcd_loop0 K K]; rfl)
theorem env_digits_Gcd : EnvOK Tryz.prog G Γ_digits_Gcd := ⟨T_ok, ((phi_cons fn_limbs_Div (phi_cons fn_slices_Clone_api_Nat_uint32 phi_nil)) : PhiOK Tryz.prog G Γ_digits_Gcd.Φ), fun _ _ h => (by cases h), mixed⟩
theorem fn_digits_Gcd : FnOK Tryz.prog G 35 en_digits_Gcd := FnOK.of env_digits_Gcd Tryz.func35 (by kernel_rfl) (by kernel_rfl) (of_decide_eq_true (by kernel_rfl)) (fun x y h => by obtain ⟨K, hK⟩ := digits_Gcd_ok x y h; exact ⟨K, (digits_Gcd_eq K x.1 x.2.1).trans hK⟩)

noncomputable def Γ_ratio_Check : Env := { T := T, Φ := fun i => bif Nat.beq i 28 then some en_limbs_Of else bif Nat.beq i 32 then some en_whole_Check else bif Nat.beq i 33 then some en_limbs_Check else bif Nat.beq i 34 then some en_limbs_Compare else bif Nat.beq i 35 then some en_digits_Gcd else none, ann := fun i => [] }
theorem ratio_Check_eq (K : Nat) (a : dR) : exF Γ_ratio_Check K Tryz.f9 (.pair tR .unit) tE [] (a, ()) = ratio_Check a := by kernel_rfl
theorem env_ratio_Check : EnvOK Tryz.prog G Γ_ratio_Check := ⟨T_ok, ((phi_cons fn_limbs_Of (phi_cons fn_whole_Check (phi_cons fn_limbs_Check (phi_cons fn_limbs_Compare (phi_cons fn_digits_Gcd phi_nil))))) : PhiOK Tryz.prog G Γ_ratio_Check.Φ), fun _ _ h => (by cases h), mixed⟩
theorem fn_ratio_Check : FnOK Tryz.prog G 9 en_ratio_Check := FnOK.of env_ratio_Check Tryz.func9 (by kernel_rfl) (by kernel_rfl) (of_decide_eq_true (by kernel_rfl)) (fun x y h => ⟨0, (ratio_Check_eq 0 x.1).trans h⟩)

noncomputable def Γ_vec_Check : Env := { T := T, Φ := fun i => bif Nat.beq i 9 then some en_ratio_Check else none, ann := fun i => bif Nat.beq i 4 then [(20, .c (.data tR)), (21, .c .sc), (22, .c .sc)] else [] }
noncomputable def vec_Check_c : Code := (Tryz.f51.body).getD .skip
noncomputable def vec_Check_fin := finish Γ_vec_Check Tryz.f51.results.toList tE []
noncomputable def vec_Check_k0 (κ : Kt tE) (a : List dR) (b c : Int) := κ { t := (upd (upd (upd (fun _ => .undef) 20 (.one (.sl tR a))) 21 (.one (.int .i64 b))) 22 (.one (.int .i64 c))), m := (upd (fun _ => .free) 0 .held), nx := 1000000, n := 32 }
noncomputable def vec_Check_A0 (K : Nat) := loopAt Γ_vec_Check K [.r, .r, .l, .r, .b] vec_Check_c [] vec_Check_fin (fun _ _ => none) vec_Check_fin
theorem vec_Check_loop0 (K : Nat) : ∀ n, vec_Check_k0 (vec_Check_A0 K n) = vec_Check_l0 K n
  | 0 => by kernel_rfl
  | n + 1 => Eq.trans (b := vec_Check_s0 (vec_Check_k0 (vec_Check_A0 K n))) (by kernel_rfl) (by rw [vec_Check_loop0 K n]; rfl)
theorem vec_Check_eq (K : Nat) (a : List dR) (n : Int) : exF Γ_vec_Check K Tryz.f51 (.pair lR tE) tE [] (a, n, ()) = vec_Check K a n :=
  Eq.trans (b := vec_Check_b (vec_Check_k0 (vec_Check_A0 K K)) a n) (by kernel_rfl) (by rw [vec_Check_loop0 K K]; rfl)
theorem env_vec_Check : EnvOK Tryz.prog G Γ_vec_Check := ⟨T_ok, ((phi_cons fn_ratio_Check phi_nil) : PhiOK Tryz.prog G Γ_vec_Check.Φ), fun _ _ h => (by cases h), mixed⟩
theorem fn_vec_Check : FnOK Tryz.prog G 51 en_vec_Check := FnOK.of env_vec_Check Tryz.func51 (by kernel_rfl) (by kernel_rfl) (of_decide_eq_true (by kernel_rfl)) (fun x y h => ⟨100, (vec_Check_eq 100 x.1 x.2.1).trans h⟩)

noncomputable def Γ_mat_Check : Env := { T := T, Φ := fun i => bif Nat.beq i 51 then some en_vec_Check else none, ann := fun i => bif Nat.beq i 4 then [(2, .c .sc), (22, .c (.data lR)), (23, .c .sc), (24, .c .sc)] else [] }
noncomputable def mat_Check_c : Code := (Tryz.f21.body).getD .skip
noncomputable def mat_Check_fin := finish Γ_mat_Check Tryz.f21.results.toList tE []
noncomputable def mat_Check_k0 (κ : Kt tE) (a : Int) (b : List (List dR)) (c d : Int) := κ { t := (upd (upd (upd (upd (fun _ => .undef) 2 (.one (.int .i64 a))) 22 (.one (.sl lR b))) 23 (.one (.int .i64 c))) 24 (.one (.int .i64 d))), m := (upd (fun _ => .free) 0 .held), nx := 1000000, n := 35 }
noncomputable def mat_Check_A0 (K : Nat) := loopAt Γ_mat_Check K [.r, .r, .l, .r, .b] mat_Check_c [] mat_Check_fin (fun _ _ => none) mat_Check_fin
theorem mat_Check_loop0 (K : Nat) : ∀ n, mat_Check_k0 (mat_Check_A0 K n) = mat_Check_l0 K n
  | 0 => by kernel_rfl
  | n + 1 => Eq.trans (b := mat_Check_s0 (mat_Check_k0 (mat_Check_A0 K n))) (by kernel_rfl) (by rw [mat_Check_loop0 K n]; rfl)
theorem mat_Check_eq (K : Nat) (a : List (List dR)) (rows : Int) (cols : Int) : exF Γ_mat_Check K Tryz.f21 (.pair (.sl lR) (.pair (.int .i64) tE)) tE [] (a, rows, cols, ()) = mat_Check K a rows cols :=
  Eq.trans (b := mat_Check_b (mat_Check_k0 (mat_Check_A0 K K)) a rows cols) (by kernel_rfl) (by rw [mat_Check_loop0 K K]; rfl)
theorem env_mat_Check : EnvOK Tryz.prog G Γ_mat_Check := ⟨T_ok, ((phi_cons fn_vec_Check phi_nil) : PhiOK Tryz.prog G Γ_mat_Check.Φ), fun _ _ h => (by cases h), mixed⟩
theorem fn_mat_Check : FnOK Tryz.prog G 21 en_mat_Check := FnOK.of env_mat_Check Tryz.func21 (by kernel_rfl) (by kernel_rfl) (of_decide_eq_true (by kernel_rfl)) (fun x y h => ⟨100, (mat_Check_eq 100 x.1 x.2.1 x.2.2.1).trans h⟩)

noncomputable def Γ_vec_each : Env := { T := T, Φ := fun i => none, ann := fun i => bif Nat.beq i 5 then [(0, .c (.data tR)), (1, .c (.data tR)), (2, .c .sc), (8, .c (.own 100 28 tR)), (21, .c .sc), (22, .c .sc)] else [], ord := fun i => bif Nat.beq i 7 then [0, 1, 2, 3, 4, 5, 6, 7, 8, 9, 10, 11, 12, 13, 14, 15] else [] }
noncomputable def vec_each_c : Code := (Tryz.f80.body).getD .skip
noncomputable def vec_each_fin := finish Γ_vec_each Tryz.f80.results.toList (.pair lR tE) []
noncomputable def vec_each_k0 (κ : Kt (.pair lR tE)) (a b : List dR) (c : ((dR × dR × Unit) → Option (dR × Int × Unit))) (d : List dR) (e f : Int) := κ { t := (upd (upd (upd (upd (upd (upd (fun _ => .undef) 0 (.one (.sl tR a))) 1 (.one (.sl tR b))) 2 (.one (.fn (.pair tR (.pair tR .unit)) (.pair tR tE) c))) 8 (.one (.own 100))) 21 (.one (.int .i64 e))) 22 (.one (.int .i64 f))), m := (upd (upd (fun _ => .free) 0 .held) 100 (.row true 28 tR d)), nx := 1000000, n := 47 }
noncomputable def vec_each_A0 (K : Nat) := loopAt Γ_vec_each K [.r, .r, .r, .l, .r, .b] vec_each_c [] vec_each_fin (fun _ _ => none) vec_each_fin
theorem vec_each_loop0 (K : Nat) : ∀ n, vec_each_k0 (vec_each_A0 K n) = vec_each_l0 K n
  | 0 => by kernel_rfl
  | n + 1 => Eq.trans (b := vec_each_s0 (vec_each_k0 (vec_each_A0 K n))) (by kernel_rfl) (by rw [vec_each_loop0 K n]; rfl)
theorem vec_each_eq (K : Nat) (a : List dR) (b : List dR) (of : ((dR × dR × Unit) → Option (dR × Int × Unit))) : exF Γ_vec_each K Tryz.f80 (.pair lR (.pair lR (.pair (.fn (.pair tR (.pair tR .unit)) (.pair tR tE)) .unit))) (.pair lR tE) [] (a, b, of, ()) = vec_each K a b of :=
  Eq.trans (b := vec_each_b (vec_each_k0 (vec_each_A0 K K)) a b of) (by kernel_rfl) (by rw [vec_each_loop0 K K]; rfl)
theorem env_vec_each : EnvOK Tryz.prog G Γ_vec_each := ⟨T_ok, (phi_nil : PhiOK Tryz.prog G Γ_vec_each.Φ), fun _ _ h => (by cases h), mixed⟩
theorem fn_vec_each : FnOK Tryz.prog G 80 en_vec_each := FnOK.of env_vec_each Tryz.func80 (by kernel_rfl) (by kernel_rfl) (of_decide_eq_true (by kernel_rfl)) (fun x y h => ⟨100, (vec_each_eq 100 x.1 x.2.1 x.2.2.1).trans h⟩)

noncomputable def Γ_ratio_Zero : Env := { T := T, Φ := fun i => bif Nat.beq i 28 then some en_limbs_Of else none, ann := fun i => [] }
theorem ratio_Zero_eq (K : Nat)  : exF Γ_ratio_Zero K Tryz.f6 .unit (.pair tR .unit) [] (()) = ratio_Zero := by kernel_rfl
theorem env_ratio_Zero : EnvOK Tryz.prog G Γ_ratio_Zero := ⟨T_ok, ((phi_cons fn_limbs_Of phi_nil) : PhiOK Tryz.prog G Γ_ratio_Zero.Φ), fun _ _ h => (by cases h), mixed⟩
theorem fn_ratio_Zero : FnOK Tryz.prog G 6 en_ratio_Zero := FnOK.of env_ratio_Zero Tryz.func6 (by kernel_rfl) (by kernel_rfl) (of_decide_eq_true (by kernel_rfl)) (fun x y h => ⟨0, (ratio_Zero_eq 0 ).trans h⟩)

noncomputable def Γ_limbs_Mul : Env := { T := T, Φ := fun i => bif Nat.beq i 83 then some en_limbs_fits else none, ann := fun i => bif Nat.beq i 7 then [(1, .c (.data (.int .u32))), (6, .c (.own 100 110 (.int .u32))), (32, .c (.data (.int .u32))), (33, .c .sc), (34, .c .sc)] else bif Nat.beq i 11 then [(1, .c (.data (.int .u32))), (6, .c (.own 100 110 (.int .u32))), (7, .c .sc), (8, .c .sc), (9, .c .sc), (32, .c (.data (.int .u32))), (33, .c .sc), (34, .c .sc), (39, .c (.data (.int .u32))), (40, .c .sc), (41, .c .sc)] else [] }
noncomputable def limbs_Mul_c : Code := (Tryz.f71.body).getD .skip
noncomputable def limbs_Mul_fin := finish Γ_limbs_Mul Tryz.f71.results.toList (.pair lU tE) []
noncomputable def limbs_Mul_k0 (κ : Kt (.pair lU tE)) (a b c : List Int) (d e : Int) := κ { t := (upd (upd (upd (upd (upd (fun _ => .undef) 1 (.one (.sl (.int .u32) a))) 6 (.one (.own 100))) 32 (.one (.sl (.int .u32) c))) 33 (.one (.int .i64 d))) 34 (.one (.int .i64 e))), m := (upd (upd (fun _ => .free) 0 .held) 100 (.row true 110 (.int .u32) b)), nx := 1000000, n := 84 }
noncomputable def limbs_Mul_k1 (κ : Kt (.pair lU tE)) (a b : List Int) (c d e : Int) (f : List Int) (g h : Int) (i : List Int) (j k : Int) := κ { t := (upd (upd (upd (upd (upd (upd (upd (upd (upd (upd (upd (fun _ => .undef) 1 (.one (.sl (.int .u32) a))) 6 (.one (.own 100))) 7 (.one (.int .i64 c))) 8 (.one (.int .u32 d))) 9 (.one (.int .u64 e))) 32 (.one (.sl (.int .u32) f))) 33 (.one (.int .i64 g))) 34 (.one (.int .i64 h))) 39 (.one (.sl (.int .u32) i))) 40 (.one (.int .i64 j))) 41 (.one (.int .i64 k))), m := (upd (upd (fun _ => .free) 0 .held) 100 (.row true 110 (.int .u32) b)), nx := 1000000, n := 84 }
noncomputable def limbs_Mul_A1 (K : Nat) (κ0 : Kt (.pair lU tE)) := loopAt Γ_limbs_Mul K [.r, .r, .r, .r, .l, .r, .b, .c, .r, .r, .l, .b, .r, .r, .l, .r, .b] limbs_Mul_c [fun st => mask [(1, .c (.data (.int .u32))), (6, .c (.own 100 110 (.int .u32))), (32, .c (.data (.int .u32))), (33, .c .sc), (34, .c .sc)] 1000000 st (κ0)] limbs_Mul_fin (fun _ _ => none) limbs_Mul_fin
theorem limbs_Mul_loop1 (K : Nat) (κ0 : Kt (.pair lU tE)) : ∀ n, limbs_Mul_k1 (limbs_Mul_A1 K κ0 n) = limbs_Mul_l1 K (limbs_Mul_k0 κ0) n
  | 0 => by kernel_rfl
  | n + 1 => Eq.trans (b := limbs_Mul_s1 (limbs_Mul_k0 κ0) (limbs_Mul_k1 (limbs_Mul_A1 K κ0 n))) (by kernel_rfl) (by rw [limbs_Mul_loop1 K κ0 n]; rfl)
noncomputable def limbs_Mul_A0 (K : Nat) := loopAt Γ_limbs_Mul K [.r, .r, .r, .r, .l, .r, .b] limbs_Mul_c [] limbs_Mul_fin (fun _ _ => none) limbs_Mul_fin
theorem limbs_Mul_loop0 (K : Nat) : ∀ n, limbs_Mul_k0 (limbs_Mul_A0 K n) = limbs_Mul_l0 K n
  | 0 => by kernel_rfl
  | n + 1 => Eq.trans (b := limbs_Mul_s0 (limbs_Mul_k1 (limbs_Mul_A1 K (limbs_Mul_A0 K n) K)) (limbs_Mul_k0 (limbs_Mul_A0 K n))) (by kernel_rfl) (by rw [limbs_Mul_loop1 K (limbs_Mul_A0 K n) K, limbs_Mul_loop0 K n]; rfl)
theorem limbs_Mul_eq (K : Nat) (a : List Int) (b : List Int) : exF Γ_limbs_Mul K Tryz.f71 (.pair lU (.pair lU .unit)) (.pair lU tE) [] (a, b, ()) = limbs_Mul K a b :=
  Eq.trans (b := limbs_Mul_b (limbs_Mul_k0 (limbs_Mul_A0 K K)) a b) (by kernel_rfl) (by rw [limbs_Mul_loop0 K K]; rfl)
theorem env_limbs_Mul : EnvOK Tryz.prog G Γ_limbs_Mul := ⟨T_ok, ((phi_cons fn_limbs_fits phi_nil) : PhiOK Tryz.prog G Γ_limbs_Mul.Φ), fun _ _ h => (by cases h), mixed⟩
theorem fn_limbs_Mul : FnOK Tryz.prog G 71 en_limbs_Mul := FnOK.of env_limbs_Mul Tryz.func71 (by kernel_rfl) (by kernel_rfl) (of_decide_eq_true (by kernel_rfl)) (fun x y h => by obtain ⟨K, hK⟩ := limbs_Mul_ok x y h; exact ⟨K, (limbs_Mul_eq K x.1 x.2.1).trans hK⟩)

noncomputable def Γ_whole_of : Env := { T := T, Φ := fun i => none, ann := fun i => [] }
theorem whole_of_eq (K : Nat) (minus : Bool) (size : List Int) : exF Γ_whole_of K Tryz.f72 tI (.pair tI .unit) [] (minus, size, ()) = whole_of minus size := by kernel_rfl
theorem env_whole_of : EnvOK Tryz.prog G Γ_whole_of := ⟨T_ok, (phi_nil : PhiOK Tryz.prog G Γ_whole_of.Φ), fun _ _ h => (by cases h), mixed⟩
theorem fn_whole_of : FnOK Tryz.prog G 72 en_whole_of := FnOK.of env_whole_of Tryz.func72 (by kernel_rfl) (by kernel_rfl) (of_decide_eq_true (by kernel_rfl)) (fun x y h => ⟨0, (whole_of_eq 0 x.1 x.2.1).trans h⟩)

noncomputable def Γ_whole_Mul : Env := { T := T, Φ := fun i => bif Nat.beq i 71 then some en_limbs_Mul else bif Nat.beq i 72 then some en_whole_of else none, ann := fun i => [] }
theorem whole_Mul_eq (K : Nat) (a : dI) (b : dI) : exF Γ_whole_Mul K Tryz.f38 (.pair tI (.pair tI .unit)) tY [] (a, b, ()) = whole_Mul a b := by kernel_rfl
theorem env_whole_Mul : EnvOK Tryz.prog G Γ_whole_Mul := ⟨T_ok, ((phi_cons fn_limbs_Mul (phi_cons fn_whole_of phi_nil)) : PhiOK Tryz.prog G Γ_whole_Mul.Φ), fun _ _ h => (by cases h), mixed⟩
theorem fn_whole_Mul : FnOK Tryz.prog G 38 en_whole_Mul := FnOK.of env_whole_Mul Tryz.func38 (by kernel_rfl) (by kernel_rfl) (of_decide_eq_true (by kernel_rfl)) (fun x y h => ⟨0, (whole_Mul_eq 0 x.1 x.2.1).trans h⟩)

noncomputable def Γ_whole_Nat : Env := { T := T, Φ := fun i => bif Nat.beq i 70 then some en_slices_Clone_api_Nat_uint32 else bif Nat.beq i 72 then some en_whole_of else none, ann := fun i => [] }
theorem whole_Nat_eq (K : Nat) (a : List Int) : exF Γ_whole_Nat K Tryz.f56 (.pair lU .unit) (.pair tI .unit) [] (a, ()) = whole_Nat a := by kernel_rfl
theorem env_whole_Nat : EnvOK Tryz.prog G Γ_whole_Nat := ⟨T_ok, ((phi_cons fn_slices_Clone_api_Nat_uint32 (phi_cons fn_whole_of phi_nil)) : PhiOK Tryz.prog G Γ_whole_Nat.Φ), fun _ _ h => (by cases h), mixed⟩
theorem fn_whole_Nat : FnOK Tryz.prog G 56 en_whole_Nat := FnOK.of env_whole_Nat Tryz.func56 (by kernel_rfl) (by kernel_rfl) (of_decide_eq_true (by kernel_rfl)) (fun x y h => ⟨0, (whole_Nat_eq 0 x.1).trans h⟩)

noncomputable def Γ_ratio_den : Env := { T := T, Φ := fun i => bif Nat.beq i 56 then some en_whole_Nat else none, ann := fun i => [] }
theorem ratio_den_eq (K : Nat) (a : dR) : exF Γ_ratio_den K Tryz.f39 (.pair tR .unit) (.pair tI .unit) [] (a, ()) = ratio_den a := by kernel_rfl
theorem env_ratio_den : EnvOK Tryz.prog G Γ_ratio_den := ⟨T_ok, ((phi_cons fn_whole_Nat phi_nil) : PhiOK Tryz.prog G Γ_ratio_den.Φ), fun _ _ h => (by cases h), mixed⟩
theorem fn_ratio_den : FnOK Tryz.prog G 39 en_ratio_den := FnOK.of env_ratio_den Tryz.func39 (by kernel_rfl) (by kernel_rfl) (of_decide_eq_true (by kernel_rfl)) (fun x y h => ⟨0, (ratio_den_eq 0 x.1).trans h⟩)

noncomputable def Γ_ratio_first : Env := { T := T, Φ := fun i => none, ann := fun i => bif Nat.beq i 2 then [(5, .c (.data (.int .i64))), (6, .c .sc), (7, .c .sc)] else [] }
noncomputable def ratio_first_c : Code := (Tryz.f40.body).getD .skip
noncomputable def ratio_first_fin := finish Γ_ratio_first Tryz.f40.results.toList tE []
noncomputable def ratio_first_k0 (κ : Kt tE) (a : List Int) (b c : Int) := κ { t := (upd (upd (upd (fun _ => .undef) 5 (.one (.sl (.int .i64) a))) 6 (.one (.int .i64 b))) 7 (.one (.int .i64 c))), m := (upd (fun _ => .free) 0 .held), nx := 1000000, n := 15 }
noncomputable def ratio_first_A0 (K : Nat) := loopAt Γ_ratio_first K [.r, .l, .r, .b] ratio_first_c [] ratio_first_fin (fun _ _ => none) ratio_first_fin
theorem ratio_first_loop0 (K : Nat) : ∀ n, ratio_first_k0 (ratio_first_A0 K n) = ratio_first_l0 K n
  | 0 => by kernel_rfl
  | n + 1 => Eq.trans (b := ratio_first_s0 (ratio_first_k0 (ratio_first_A0 K n))) (by kernel_rfl) (by rw [ratio_first_loop0 K n]; rfl)
theorem ratio_first_eq (K : Nat) (list : List Int) : exF Γ_ratio_first K Tryz.f40 (.pair (.sl (.int .i64)) .unit) tE [] (list, ()) = ratio_first K list :=
  Eq.trans (b := ratio_first_b (ratio_first_k0 (ratio_first_A0 K K)) list) (by kernel_rfl) (by rw [ratio_first_loop0 K K]; rfl)
theorem env_ratio_first : EnvOK Tryz.prog G Γ_ratio_first := ⟨T_ok, (phi_nil : PhiOK Tryz.prog G Γ_ratio_first.Φ), fun _ _ h => (by cases h), mixed⟩
theorem fn_ratio_first : FnOK Tryz.prog G 40 en_ratio_first := FnOK.of env_ratio_first Tryz.func40 (by kernel_rfl) (by kernel_rfl) (of_decide_eq_true (by kernel_rfl)) (fun x y h => by obtain ⟨K, hK⟩ := ratio_first_ok x y h; exact ⟨K, (ratio_first_eq K x.1).trans hK⟩)

noncomputable def Γ_ratio_Make : Env := { T := T, Φ := fun i => bif Nat.beq i 6 then some en_ratio_Zero else bif Nat.beq i 35 then some en_digits_Gcd else bif Nat.beq i 36 then some en_whole_Sign else bif Nat.beq i 69 then some en_limbs_Div else none, ann := fun i => [] }
theorem ratio_Make_eq (K : Nat) (num : dI) (den : dI) : exF Γ_ratio_Make K Tryz.f42 (.pair tI (.pair tI .unit)) (.pair tR tE) [] (num, den, ()) = ratio_Make num den := by kernel_rfl
theorem env_ratio_Make : EnvOK Tryz.prog G Γ_ratio_Make := ⟨T_ok, ((phi_cons fn_ratio_Zero (phi_cons fn_digits_Gcd (phi_cons fn_whole_Sign (phi_cons fn_limbs_Div phi_nil)))) : PhiOK Tryz.prog G Γ_ratio_Make.Φ), fun _ _ h => (by cases h), mixed⟩
theorem fn_ratio_Make : FnOK Tryz.prog G 42 en_ratio_Make := FnOK.of env_ratio_Make Tryz.func42 (by kernel_rfl) (by kernel_rfl) (of_decide_eq_true (by kernel_rfl)) (fun x y h => ⟨0, (ratio_Make_eq 0 x.1 x.2.1).trans h⟩)

noncomputable def Γ_ratio_Mul : Env := { T := T, Φ := fun i => bif Nat.beq i 6 then some en_ratio_Zero else bif Nat.beq i 38 then some en_whole_Mul else bif Nat.beq i 39 then some en_ratio_den else bif Nat.beq i 40 then some en_ratio_first else bif Nat.beq i 42 then some en_ratio_Make else none, ann := fun i => [], ord := fun i => bif Nat.beq i 2 then [0, 2, 1, 3, 4, 5, 6, 7, 8, 9, 10] else [] }
theorem ratio_Mul_eq (K : Nat) (a : dR) (b : dR) : exF Γ_ratio_Mul K Tryz.f16 (.pair tR (.pair tR .unit)) (.pair tR tE) [] (a, b, ()) = ratio_Mul a b := by kernel_rfl
theorem env_ratio_Mul : EnvOK Tryz.prog G Γ_ratio_Mul := ⟨T_ok, ((phi_cons fn_ratio_Zero (phi_cons fn_whole_Mul (phi_cons fn_ratio_den (phi_cons fn_ratio_first (phi_cons fn_ratio_Make phi_nil))))) : PhiOK Tryz.prog G Γ_ratio_Mul.Φ), fun _ _ h => (by cases h), mixed⟩
theorem fn_ratio_Mul : FnOK Tryz.prog G 16 en_ratio_Mul := FnOK.of env_ratio_Mul Tryz.func16 (by kernel_rfl) (by kernel_rfl) (of_decide_eq_true (by kernel_rfl)) (fun x y h => ⟨0, (ratio_Mul_eq 0 x.1 x.2.1).trans h⟩)

noncomputable def Γ_vec_Scale_1 : Env := { T := T, Φ := fun i => bif Nat.beq i 16 then some en_ratio_Mul else none, ann := fun i => [] }
theorem vec_Scale_1_eq (K : Nat) (x : dR) (__ : dR) (t2 : dR) : exF Γ_vec_Scale_1 K Tryz.f81 (.pair tR (.pair tR (.pair (.ptr tR) .unit))) (.pair tR tE) [] (x, __, t2, ()) = vec_Scale_1 x __ t2 := by kernel_rfl
theorem env_vec_Scale_1 : EnvOK Tryz.prog G Γ_vec_Scale_1 := ⟨T_ok, ((phi_cons fn_ratio_Mul phi_nil) : PhiOK Tryz.prog G Γ_vec_Scale_1.Φ), fun _ _ h => (by cases h), mixed⟩
theorem fn_vec_Scale_1 : FnOK Tryz.prog G 81 en_vec_Scale_1 := FnOK.of env_vec_Scale_1 Tryz.func81 (by kernel_rfl) (by kernel_rfl) (of_decide_eq_true (by kernel_rfl)) (fun x y h => ⟨0, (vec_Scale_1_eq 0 x.1 x.2.1 x.2.2.1).trans h⟩)

noncomputable def Γ_vec_Scale : Env := { T := T, Φ := fun i => bif Nat.beq i 80 then some en_vec_each else bif Nat.beq i 81 then some en_vec_Scale_1 else none, ann := fun i => [] }
theorem vec_Scale_eq (K : Nat) (a : List dR) (by_ : dR) : exF Γ_vec_Scale K Tryz.f52 (.pair lR (.pair tR .unit)) (.pair lR tE) [] (a, by_, ()) = vec_Scale a by_ := by kernel_rfl
theorem env_vec_Scale : EnvOK Tryz.prog G Γ_vec_Scale := ⟨T_ok, ((phi_cons fn_vec_each (phi_cons fn_vec_Scale_1 phi_nil)) : PhiOK Tryz.prog G Γ_vec_Scale.Φ), fun _ _ h => (by cases h), mixed⟩
theorem fn_vec_Scale : FnOK Tryz.prog G 52 en_vec_Scale := FnOK.of env_vec_Scale Tryz.func52 (by kernel_rfl) (by kernel_rfl) (of_decide_eq_true (by kernel_rfl)) (fun x y h => ⟨0, (vec_Scale_eq 0 x.1 x.2.1).trans h⟩)

noncomputable def Γ_mat_Scale : Env := { T := T, Φ := fun i => bif Nat.beq i 52 then some en_vec_Scale else none, ann := fun i => bif Nat.beq i 3 then [(0, .c (.data lR)), (3, .var 100 [.sc, .data (.int .u32), .data (.int .u32)]), (6, .c (.own 101 22 lR)), (14, .c .sc), (15, .c .sc)] else [], ord := fun i => bif Nat.beq i 5 then [0, 1, 2, 3, 4, 5, 6, 7, 8, 9, 10] else [] }
noncomputable def mat_Scale_c : Code := (Tryz.f22.body).getD .skip
noncomputable def mat_Scale_fin := finish Γ_mat_Scale Tryz.f22.results.toList (.pair (.sl lR) tE) []
noncomputable def mat_Scale_k0 (κ : Kt (.pair (.sl lR) tE)) (a : List (List dR)) (b : Bool) (c d : List Int) (e : List (List dR)) (f g : Int) := κ { t := (upd (upd (upd (upd (upd (fun _ => .undef) 0 (.one (.sl lR a))) 3 (.one (.vptr 100 0))) 6 (.one (.own 101))) 14 (.one (.int .i64 f))) 15 (.one (.int .i64 g))), m := (upd (upd (upd (fun _ => .free) 0 .held) 100 (.var true [.bool b, .sl (.int .u32) c, .sl (.int .u32) d])) 101 (.row true 22 lR e)), nx := 1000000, n := 36 }
noncomputable def mat_Scale_A0 (K : Nat) := loopAt Γ_mat_Scale K [.r, .r, .l, .r, .b] mat_Scale_c [] mat_Scale_fin (fun _ _ => none) mat_Scale_fin
theorem mat_Scale_loop0 (K : Nat) : ∀ n, mat_Scale_k0 (mat_Scale_A0 K n) = mat_Scale_l0 K n
  | 0 => by kernel_rfl
  | n + 1 => Eq.trans (b := mat_Scale_s0 (mat_Scale_k0 (mat_Scale_A0 K n))) (by kernel_rfl) (by rw [mat_Scale_loop0 K n]; rfl)
theorem mat_Scale_eq (K : Nat) (a : List (List dR)) (by_ : dR) : exF Γ_mat_Scale K Tryz.f22 (.pair (.sl lR) (.pair tR .unit)) (.pair (.sl lR) tE) [] (a, by_, ()) = mat_Scale K a by_ :=
  Eq.trans (b := mat_Scale_b (mat_Scale_k0 (mat_Scale_A0 K K)) a by_) (by kernel_rfl) (by rw [mat_Scale_loop0 K K]; rfl)
theorem env_mat_Scale : EnvOK Tryz.prog G Γ_mat_Scale := ⟨T_ok, ((phi_cons fn_vec_Scale phi_nil) : PhiOK Tryz.prog G Γ_mat_Scale.Φ), fun _ _ h => (by cases h), mixed⟩
theorem fn_mat_Scale : FnOK Tryz.prog G 22 en_mat_Scale := FnOK.of env_mat_Scale Tryz.func22 (by kernel_rfl) (by kernel_rfl) (of_decide_eq_true (by kernel_rfl)) (fun x y h => ⟨100, (mat_Scale_eq 100 x.1 x.2.1).trans h⟩)

noncomputable def Γ_whole_Compare : Env := { T := T, Φ := fun i => bif Nat.beq i 34 then some en_limbs_Compare else bif Nat.beq i 36 then some en_whole_Sign else none, ann := fun i => [], ord := fun i => bif Nat.beq i 1 then [0, 2, 1, 3, 4, 5] else [] }
theorem whole_Compare_eq (K : Nat) (a : dI) (b : dI) : exF Γ_whole_Compare K Tryz.f41 (.pair tI (.pair tI .unit)) tE [] (a, b, ()) = whole_Compare a b := by kernel_rfl
theorem env_whole_Compare : EnvOK Tryz.prog G Γ_whole_Compare := ⟨T_ok, ((phi_cons fn_limbs_Compare (phi_cons fn_whole_Sign phi_nil)) : PhiOK Tryz.prog G Γ_whole_Compare.Φ), fun _ _ h => (by cases h), mixed⟩
theorem fn_whole_Compare : FnOK Tryz.prog G 41 en_whole_Compare := FnOK.of env_whole_Compare Tryz.func41 (by kernel_rfl) (by kernel_rfl) (of_decide_eq_true (by kernel_rfl)) (fun x y h => ⟨0, (whole_Compare_eq 0 x.1 x.2.1).trans h⟩)

noncomputable def Γ_ratio_Compare : Env := { T := T, Φ := fun i => bif Nat.beq i 38 then some en_whole_Mul else bif Nat.beq i 39 then some en_ratio_den else bif Nat.beq i 40 then some en_ratio_first else bif Nat.beq i 41 then some en_whole_Compare else none, ann := fun i => [], ord := fun i => bif Nat.beq i 1 then [0, 1, 2, 3, 4, 5, 6, 7, 8, 9, 10] else bif Nat.beq i 2 then [0, 1, 2, 3, 4, 5, 6, 7, 8, 9, 10] else [] }
theorem ratio_Compare_eq (K : Nat) (a : dR) (b : dR) : exF Γ_ratio_Compare K Tryz.f13 (.pair tR (.pair tR .unit)) (.pair (.int .i64) tE) [] (a, b, ()) = ratio_Compare a b := by kernel_rfl
theorem env_ratio_Compare : EnvOK Tryz.prog G Γ_ratio_Compare := ⟨T_ok, ((phi_cons fn_whole_Mul (phi_cons fn_ratio_den (phi_cons fn_ratio_first (phi_cons fn_whole_Compare phi_nil)))) : PhiOK Tryz.prog G Γ_ratio_Compare.Φ), fun _ _ h => (by cases h), mixed⟩
theorem fn_ratio_Compare : FnOK Tryz.prog G 13 en_ratio_Compare := FnOK.of env_ratio_Compare Tryz.func13 (by kernel_rfl) (by kernel_rfl) (of_decide_eq_true (by kernel_rfl)) (fun x y h => ⟨0, (ratio_Compare_eq 0 x.1 x.2.1).trans h⟩)

noncomputable def Γ_limbs_Sub : Env := { T := T, Φ := fun i => bif Nat.beq i 34 then some en_limbs_Compare else bif Nat.beq i 83 then some en_limbs_fits else none, ann := fun i => bif Nat.beq i 6 then [(1, .c (.data (.int .u32))), (6, .c (.own 100 110 (.int .u32))), (7, .c .sc), (19, .c (.data (.int .u32))), (20, .c .sc), (21, .c .sc)] else [] }
noncomputable def limbs_Sub_c : Code := (Tryz.f99.body).getD .skip
noncomputable def limbs_Sub_fin := finish Γ_limbs_Sub Tryz.f99.results.toList (.pair lU tE) []
noncomputable def limbs_Sub_k0 (κ : Kt (.pair lU tE)) (a b : List Int) (c : Int) (d : List Int) (e f : Int) := κ { t := (upd (upd (upd (upd (upd (upd (fun _ => .undef) 1 (.one (.sl (.int .u32) a))) 6 (.one (.own 100))) 7 (.one (.int .u64 c))) 19 (.one (.sl (.int .u32) d))) 20 (.one (.int .i64 e))) 21 (.one (.int .i64 f))), m := (upd (upd (fun _ => .free) 0 .held) 100 (.row true 110 (.int .u32) b)), nx := 1000000, n := 54 }
noncomputable def limbs_Sub_A0 (K : Nat) := loopAt Γ_limbs_Sub K [.r, .r, .r, .r, .l, .r, .b] limbs_Sub_c [] limbs_Sub_fin (fun _ _ => none) limbs_Sub_fin
theorem limbs_Sub_loop0 (K : Nat) : ∀ n, limbs_Sub_k0 (limbs_Sub_A0 K n) = limbs_Sub_l0 K n
  | 0 => by kernel_rfl
  | n + 1 => Eq.trans (b := limbs_Sub_s0 (limbs_Sub_k0 (limbs_Sub_A0 K n))) (by kernel_rfl) (by rw [limbs_Sub_loop0 K n]; rfl)
theorem limbs_Sub_eq (K : Nat) (a : List Int) (b : List Int) : exF Γ_limbs_Sub K Tryz.f99 (.pair lU (.pair lU .unit)) (.pair lU tE) [] (a, b, ()) = limbs_Sub K a b :=
  Eq.trans (b := limbs_Sub_b (limbs_Sub_k0 (limbs_Sub_A0 K K)) a b) (by kernel_rfl) (by rw [limbs_Sub_loop0 K K]; rfl)
theorem env_limbs_Sub : EnvOK Tryz.prog G Γ_limbs_Sub := ⟨T_ok, ((phi_cons fn_limbs_Compare (phi_cons fn_limbs_fits phi_nil)) : PhiOK Tryz.prog G Γ_limbs_Sub.Φ), fun _ _ h => (by cases h), mixed⟩
theorem fn_limbs_Sub : FnOK Tryz.prog G 99 en_limbs_Sub := FnOK.of env_limbs_Sub Tryz.func99 (by kernel_rfl) (by kernel_rfl) (of_decide_eq_true (by kernel_rfl)) (fun x y h => by obtain ⟨K, hK⟩ := limbs_Sub_ok x y h; exact ⟨K, (limbs_Sub_eq K x.1 x.2.1).trans hK⟩)

noncomputable def Γ_limbs_Add : Env := { T := T, Φ := fun i => bif Nat.beq i 83 then some en_limbs_fits else none, ann := fun i => bif Nat.beq i 6 then [(0, .c (.data (.int .u32))), (1, .c (.data (.int .u32))), (6, .c (.own 100 110 (.int .u32))), (7, .c .sc), (21, .c (.data (.int .u32))), (22, .c .sc), (23, .c .sc)] else [] }
noncomputable def limbs_Add_c : Code := (Tryz.f100.body).getD .skip
noncomputable def limbs_Add_fin := finish Γ_limbs_Add Tryz.f100.results.toList (.pair lU tE) []
noncomputable def limbs_Add_k0 (κ : Kt (.pair lU tE)) (a b c : List Int) (d : Int) (e : List Int) (f g : Int) := κ { t := (upd (upd (upd (upd (upd (upd (upd (fun _ => .undef) 0 (.one (.sl (.int .u32) a))) 1 (.one (.sl (.int .u32) b))) 6 (.one (.own 100))) 7 (.one (.int .u64 d))) 21 (.one (.sl (.int .u32) e))) 22 (.one (.int .i64 f))) 23 (.one (.int .i64 g))), m := (upd (upd (fun _ => .free) 0 .held) 100 (.row true 110 (.int .u32) c)), nx := 1000000, n := 61 }
noncomputable def limbs_Add_A0 (K : Nat) := loopAt Γ_limbs_Add K [.r, .r, .r, .r, .l, .r, .b] limbs_Add_c [] limbs_Add_fin (fun _ _ => none) limbs_Add_fin
theorem limbs_Add_loop0 (K : Nat) : ∀ n, limbs_Add_k0 (limbs_Add_A0 K n) = limbs_Add_l0 K n
  | 0 => by kernel_rfl
  | n + 1 => Eq.trans (b := limbs_Add_s0 (limbs_Add_k0 (limbs_Add_A0 K n))) (by kernel_rfl) (by rw [limbs_Add_loop0 K n]; rfl)
theorem limbs_Add_eq (K : Nat) (a : List Int) (b : List Int) : exF Γ_limbs_Add K Tryz.f100 (.pair lU (.pair lU .unit)) (.pair lU tE) [] (a, b, ()) = limbs_Add K a b :=
  Eq.trans (b := limbs_Add_b (limbs_Add_k0 (limbs_Add_A0 K K)) a b) (by kernel_rfl) (by rw [limbs_Add_loop0 K K]; rfl)
theorem env_limbs_Add : EnvOK Tryz.prog G Γ_limbs_Add := ⟨T_ok, ((phi_cons fn_limbs_fits phi_nil) : PhiOK Tryz.prog G Γ_limbs_Add.Φ), fun _ _ h => (by cases h), mixed⟩
theorem fn_limbs_Add : FnOK Tryz.prog G 100 en_limbs_Add := FnOK.of env_limbs_Add Tryz.func100 (by kernel_rfl) (by kernel_rfl) (of_decide_eq_true (by kernel_rfl)) (fun x y h => by obtain ⟨K, hK⟩ := limbs_Add_ok x y h; exact ⟨K, (limbs_Add_eq K x.1 x.2.1).trans hK⟩)

noncomputable def Γ_whole_Add : Env := { T := T, Φ := fun i => bif Nat.beq i 34 then some en_limbs_Compare else bif Nat.beq i 72 then some en_whole_of else bif Nat.beq i 99 then some en_limbs_Sub else bif Nat.beq i 100 then some en_limbs_Add else none, ann := fun i => [] }
theorem whole_Add_eq (K : Nat) (a : dI) (b : dI) : exF Γ_whole_Add K Tryz.f75 (.pair tI (.pair tI .unit)) tY [] (a, b, ()) = whole_Add a b := by kernel_rfl
theorem env_whole_Add : EnvOK Tryz.prog G Γ_whole_Add := ⟨T_ok, ((phi_cons fn_limbs_Compare (phi_cons fn_whole_of (phi_cons fn_limbs_Sub (phi_cons fn_limbs_Add phi_nil)))) : PhiOK Tryz.prog G Γ_whole_Add.Φ), fun _ _ h => (by cases h), mixed⟩
theorem fn_whole_Add : FnOK Tryz.prog G 75 en_whole_Add := FnOK.of env_whole_Add Tryz.func75 (by kernel_rfl) (by kernel_rfl) (of_decide_eq_true (by kernel_rfl)) (fun x y h => ⟨0, (whole_Add_eq 0 x.1 x.2.1).trans h⟩)

noncomputable def Γ_ratio_Add : Env := { T := T, Φ := fun i => bif Nat.beq i 6 then some en_ratio_Zero else bif Nat.beq i 38 then some en_whole_Mul else bif Nat.beq i 39 then some en_ratio_den else bif Nat.beq i 40 then some en_ratio_first else bif Nat.beq i 42 then some en_ratio_Make else bif Nat.beq i 75 then some en_whole_Add else none, ann := fun i => [], ord := fun i => bif Nat.beq i 1 then [0, 1, 2, 3, 4, 5, 6, 7, 8, 9, 10] else bif Nat.beq i 2 then [0, 1, 2, 3, 4, 5, 6, 7, 8, 9, 10] else bif Nat.beq i 3 then [0, 2, 1, 3, 4, 5, 6, 7, 8, 9, 10] else [] }
theorem ratio_Add_eq (K : Nat) (a : dR) (b : dR) : exF Γ_ratio_Add K Tryz.f53 (.pair tR (.pair tR .unit)) (.pair tR tE) [] (a, b, ()) = ratio_Add a b := by kernel_rfl
theorem env_ratio_Add : EnvOK Tryz.prog G Γ_ratio_Add := ⟨T_ok, ((phi_cons fn_ratio_Zero (phi_cons fn_whole_Mul (phi_cons fn_ratio_den (phi_cons fn_ratio_first (phi_cons fn_ratio_Make (phi_cons fn_whole_Add phi_nil)))))) : PhiOK Tryz.prog G Γ_ratio_Add.Φ), fun _ _ h => (by cases h), mixed⟩
theorem fn_ratio_Add : FnOK Tryz.prog G 53 en_ratio_Add := FnOK.of env_ratio_Add Tryz.func53 (by kernel_rfl) (by kernel_rfl) (of_decide_eq_true (by kernel_rfl)) (fun x y h => ⟨0, (ratio_Add_eq 0 x.1 x.2.1).trans h⟩)

noncomputable def Γ_whole_Abs : Env := { T := T, Φ := fun i => bif Nat.beq i 70 then some en_slices_Clone_api_Nat_uint32 else bif Nat.beq i 72 then some en_whole_of else none, ann := fun i => [] }
theorem whole_Abs_eq (K : Nat) (a : dI) : exF Γ_whole_Abs K Tryz.f82 (.pair tI .unit) (.pair tI .unit) [] (a, ()) = whole_Abs a := by kernel_rfl
theorem env_whole_Abs : EnvOK Tryz.prog G Γ_whole_Abs := ⟨T_ok, ((phi_cons fn_slices_Clone_api_Nat_uint32 (phi_cons fn_whole_of phi_nil)) : PhiOK Tryz.prog G Γ_whole_Abs.Φ), fun _ _ h => (by cases h), mixed⟩
theorem fn_whole_Abs : FnOK Tryz.prog G 82 en_whole_Abs := FnOK.of env_whole_Abs Tryz.func82 (by kernel_rfl) (by kernel_rfl) (of_decide_eq_true (by kernel_rfl)) (fun x y h => ⟨0, (whole_Abs_eq 0 x.1).trans h⟩)

noncomputable def Γ_ratio_Abs : Env := { T := T, Φ := fun i => bif Nat.beq i 70 then some en_slices_Clone_api_Nat_uint32 else bif Nat.beq i 82 then some en_whole_Abs else none, ann := fun i => [], ord := fun i => bif Nat.beq i 1 then [0, 1, 3, 4, 2, 5, 6, 7] else [] }
theorem ratio_Abs_eq (K : Nat) (a : dR) : exF Γ_ratio_Abs K Tryz.f54 (.pair tR .unit) (.pair tR .unit) [] (a, ()) = ratio_Abs a := by kernel_rfl
theorem env_ratio_Abs : EnvOK Tryz.prog G Γ_ratio_Abs := ⟨T_ok, ((phi_cons fn_slices_Clone_api_Nat_uint32 (phi_cons fn_whole_Abs phi_nil)) : PhiOK Tryz.prog G Γ_ratio_Abs.Φ), fun _ _ h => (by cases h), mixed⟩
theorem fn_ratio_Abs : FnOK Tryz.prog G 54 en_ratio_Abs := FnOK.of env_ratio_Abs Tryz.func54 (by kernel_rfl) (by kernel_rfl) (of_decide_eq_true (by kernel_rfl)) (fun x y h => ⟨0, (ratio_Abs_eq 0 x.1).trans h⟩)

noncomputable def Γ_mat_Norm : Env := { T := T, Φ := fun i => bif Nat.beq i 6 then some en_ratio_Zero else bif Nat.beq i 13 then some en_ratio_Compare else bif Nat.beq i 53 then some en_ratio_Add else bif Nat.beq i 54 then some en_ratio_Abs else none, ann := fun i => bif Nat.beq i 3 then [(2, .var 100 [.sc, .data (.int .u32), .data (.int .u32)]), (4, .var 101 [.sc, .data (.int .u32), .data (.int .u32)]), (14, .c (.data lR)), (15, .c .sc), (16, .c .sc)] else bif Nat.beq i 7 then [(2, .var 100 [.sc, .data (.int .u32), .data (.int .u32)]), (4, .var 101 [.sc, .data (.int .u32), .data (.int .u32)]), (7, .var 102 [.sc, .data (.int .u32), .data (.int .u32)]), (14, .c (.data lR)), (15, .c .sc), (16, .c .sc), (21, .c (.data tR)), (22, .c .sc), (23, .c .sc)] else [], ord := fun i => bif Nat.beq i 10 then [0, 1, 2, 3, 4, 5, 6, 7, 8] else [] }
noncomputable def mat_Norm_c : Code := (Tryz.f23.body).getD .skip
noncomputable def mat_Norm_fin := finish Γ_mat_Norm Tryz.f23.results.toList (.pair tR tE) []
noncomputable def mat_Norm_k0 (κ : Kt (.pair tR tE)) (a : Bool) (b c : List Int) (d : Bool) (e f : List Int) (g : List (List dR)) (h i : Int) := κ { t := (upd (upd (upd (upd (upd (fun _ => .undef) 2 (.one (.vptr 100 0))) 4 (.one (.vptr 101 0))) 14 (.one (.sl lR g))) 15 (.one (.int .i64 h))) 16 (.one (.int .i64 i))), m := (upd (upd (upd (fun _ => .free) 0 .held) 100 (.var true [.bool a, .sl (.int .u32) b, .sl (.int .u32) c])) 101 (.var true [.bool d, .sl (.int .u32) e, .sl (.int .u32) f])), nx := 1000000, n := 54 }
noncomputable def mat_Norm_k1 (κ : Kt (.pair tR tE)) (a : Bool) (b c : List Int) (d : Bool) (e f : List Int) (g : Bool) (h i : List Int) (j : List (List dR)) (k l : Int) (o : List dR) (p q : Int) := κ { t := (upd (upd (upd (upd (upd (upd (upd (upd (upd (fun _ => .undef) 2 (.one (.vptr 100 0))) 4 (.one (.vptr 101 0))) 7 (.one (.vptr 102 0))) 14 (.one (.sl lR j))) 15 (.one (.int .i64 k))) 16 (.one (.int .i64 l))) 21 (.one (.sl tR o))) 22 (.one (.int .i64 p))) 23 (.one (.int .i64 q))), m := (upd (upd (upd (upd (fun _ => .free) 0 .held) 100 (.var true [.bool a, .sl (.int .u32) b, .sl (.int .u32) c])) 101 (.var true [.bool d, .sl (.int .u32) e, .sl (.int .u32) f])) 102 (.var true [.bool g, .sl (.int .u32) h, .sl (.int .u32) i])), nx := 1000000, n := 54 }
noncomputable def mat_Norm_A1 (K : Nat) (κ0 : Kt (.pair tR tE)) := loopAt Γ_mat_Norm K [.r, .r, .l, .r, .b, .c, .r, .r, .l, .b, .r, .r, .l, .r, .b] mat_Norm_c [fun st => mask [(2, .var 100 [.sc, .data (.int .u32), .data (.int .u32)]), (4, .var 101 [.sc, .data (.int .u32), .data (.int .u32)]), (14, .c (.data lR)), (15, .c .sc), (16, .c .sc)] 1000000 st (κ0)] mat_Norm_fin (fun _ _ => none) mat_Norm_fin
theorem mat_Norm_loop1 (K : Nat) (κ0 : Kt (.pair tR tE)) : ∀ n, mat_Norm_k1 (mat_Norm_A1 K κ0 n) = mat_Norm_l1 K (mat_Norm_k0 κ0) n
  | 0 => by kernel_rfl
  | n + 1 => Eq.trans (b := mat_Norm_s1 (mat_Norm_k0 κ0) (mat_Norm_k1 (mat_Norm_A1 K κ0 n))) (by kernel_rfl) (by rw [mat_Norm_loop1 K κ0 n]; rfl)
noncomputable def mat_Norm_A0 (K : Nat) := loopAt Γ_mat_Norm K [.r, .r, .l, .r, .b] mat_Norm_c [] mat_Norm_fin (fun _ _ => none) mat_Norm_fin
theorem mat_Norm_loop0 (K : Nat) : ∀ n, mat_Norm_k0 (mat_Norm_A0 K n) = mat_Norm_l0 K n
  | 0 => by kernel_rfl
  | n + 1 => Eq.trans (b := mat_Norm_s0 (mat_Norm_k1 (mat_Norm_A1 K (mat_Norm_A0 K n) K)) (mat_Norm_k0 (mat_Norm_A0 K n))) (by kernel_rfl) (by rw [mat_Norm_loop1 K (mat_Norm_A0 K n) K, mat_Norm_loop0 K n]; rfl)
theorem mat_Norm_eq (K : Nat) (a : List (List dR)) : exF Γ_mat_Norm K Tryz.f23 (.pair (.sl lR) .unit) (.pair tR tE) [] (a, ()) = mat_Norm K a :=
  Eq.trans (b := mat_Norm_b (mat_Norm_k0 (mat_Norm_A0 K K)) a) (by kernel_rfl) (by rw [mat_Norm_loop0 K K]; rfl)
theorem env_mat_Norm : EnvOK Tryz.prog G Γ_mat_Norm := ⟨T_ok, ((phi_cons fn_ratio_Zero (phi_cons fn_ratio_Compare (phi_cons fn_ratio_Add (phi_cons fn_ratio_Abs phi_nil)))) : PhiOK Tryz.prog G Γ_mat_Norm.Φ), fun _ _ h => (by cases h), mixed⟩
theorem fn_mat_Norm : FnOK Tryz.prog G 23 en_mat_Norm := FnOK.of env_mat_Norm Tryz.func23 (by kernel_rfl) (by kernel_rfl) (of_decide_eq_true (by kernel_rfl)) (fun x y h => ⟨100, (mat_Norm_eq 100 x.1).trans h⟩)

noncomputable def Γ_whole_Of : Env := { T := T, Φ := fun i => bif Nat.beq i 28 then some en_limbs_Of else bif Nat.beq i 72 then some en_whole_of else none, ann := fun i => [] }
theorem whole_Of_eq (K : Nat) (n : Int) : exF Γ_whole_Of K Tryz.f43 tE (.pair tI .unit) [] (n, ()) = whole_Of n := by kernel_rfl
theorem env_whole_Of : EnvOK Tryz.prog G Γ_whole_Of := ⟨T_ok, ((phi_cons fn_limbs_Of (phi_cons fn_whole_of phi_nil)) : PhiOK Tryz.prog G Γ_whole_Of.Φ), fun _ _ h => (by cases h), mixed⟩
theorem fn_whole_Of : FnOK Tryz.prog G 43 en_whole_Of := FnOK.of env_whole_Of Tryz.func43 (by kernel_rfl) (by kernel_rfl) (of_decide_eq_true (by kernel_rfl)) (fun x y h => ⟨0, (whole_Of_eq 0 x.1).trans h⟩)

noncomputable def Γ_ratio_Of : Env := { T := T, Φ := fun i => bif Nat.beq i 42 then some en_ratio_Make else bif Nat.beq i 43 then some en_whole_Of else none, ann := fun i => [] }
theorem ratio_Of_eq (K : Nat) (num : Int) (den : Int) : exF Γ_ratio_Of K Tryz.f14 (.pair (.int .i64) tE) (.pair tR .unit) [] (num, den, ()) = ratio_Of num den := by kernel_rfl
theorem env_ratio_Of : EnvOK Tryz.prog G Γ_ratio_Of := ⟨T_ok, ((phi_cons fn_ratio_Make (phi_cons fn_whole_Of phi_nil)) : PhiOK Tryz.prog G Γ_ratio_Of.Φ), fun _ _ h => (by cases h), mixed⟩
theorem fn_ratio_Of : FnOK Tryz.prog G 14 en_ratio_Of := FnOK.of env_ratio_Of Tryz.func14 (by kernel_rfl) (by kernel_rfl) (of_decide_eq_true (by kernel_rfl)) (fun x y h => ⟨0, (ratio_Of_eq 0 x.1 x.2.1).trans h⟩)

noncomputable def Γ_series_halves : Env := { T := T, Φ := fun i => bif Nat.beq i 13 then some en_ratio_Compare else bif Nat.beq i 14 then some en_ratio_Of else bif Nat.beq i 16 then some en_ratio_Mul else none, ann := fun i => bif Nat.beq i 3 then [(1, .var 100 [.sc, .data (.int .u32), .data (.int .u32)]), (3, .var 101 [.sc, .data (.int .u32), .data (.int .u32)]), (5, .var 102 [.sc, .data (.int .u32), .data (.int .u32)]), (10, .c .sc)] else [], ord := fun i => bif Nat.beq i 7 then [0, 1, 2, 3, 4] else bif Nat.beq i 9 then [0, 1, 2, 3, 4] else bif Nat.beq i 12 then [0, 1, 2, 3, 4] else bif Nat.beq i 14 then [0, 1, 2, 3] else [] }
noncomputable def series_halves_c : Code := (Tryz.f24.body).getD .skip
noncomputable def series_halves_fin := finish Γ_series_halves Tryz.f24.results.toList (.pair (.int .i64) (.pair tR tE)) []
noncomputable def series_halves_k0 (κ : Kt (.pair (.int .i64) (.pair tR tE))) (a : Bool) (b c : List Int) (d : Bool) (e f : List Int) (g : Bool) (h i : List Int) (j : Int) := κ { t := (upd (upd (upd (upd (fun _ => .undef) 1 (.one (.vptr 100 0))) 3 (.one (.vptr 101 0))) 5 (.one (.vptr 102 0))) 10 (.one (.int .i64 j))), m := (upd (upd (upd (upd (fun _ => .free) 0 .held) 100 (.var true [.bool a, .sl (.int .u32) b, .sl (.int .u32) c])) 101 (.var true [.bool d, .sl (.int .u32) e, .sl (.int .u32) f])) 102 (.var true [.bool g, .sl (.int .u32) h, .sl (.int .u32) i])), nx := 1000000, n := 39 }
noncomputable def series_halves_A0 (K : Nat) := loopAt Γ_series_halves K [.r, .r, .l, .r, .b] series_halves_c [] series_halves_fin (fun _ _ => none) series_halves_fin
theorem series_halves_loop0 (K : Nat) : ∀ n, series_halves_k0 (series_halves_A0 K n) = series_halves_l0 K n
  | 0 => by kernel_rfl
  | n + 1 => Eq.trans (b := series_halves_s0 (series_halves_k0 (series_halves_A0 K n))) (by kernel_rfl) (by rw [series_halves_loop0 K n]; rfl)
theorem series_halves_eq (K : Nat) (x : dR) : exF Γ_series_halves K Tryz.f24 (.pair tR .unit) (.pair (.int .i64) (.pair tR tE)) [] (x, ()) = series_halves K x :=
  Eq.trans (b := series_halves_b (series_halves_k0 (series_halves_A0 K K)) x) (by kernel_rfl) (by rw [series_halves_loop0 K K]; rfl)
theorem env_series_halves : EnvOK Tryz.prog G Γ_series_halves := ⟨T_ok, ((phi_cons fn_ratio_Compare (phi_cons fn_ratio_Of (phi_cons fn_ratio_Mul phi_nil))) : PhiOK Tryz.prog G Γ_series_halves.Φ), fun _ _ h => (by cases h), mixed⟩
theorem fn_series_halves : FnOK Tryz.prog G 24 en_series_halves := FnOK.of env_series_halves Tryz.func24 (by kernel_rfl) (by kernel_rfl) (of_decide_eq_true (by kernel_rfl)) (fun x y h => ⟨100, (series_halves_eq 100 x.1).trans h⟩)

noncomputable def Γ_limbs_Left : Env := { T := T, Φ := fun i => bif Nat.beq i 83 then some en_limbs_fits else none, ann := fun i => bif Nat.beq i 9 then [(1, .c .sc), (6, .c (.own 100 110 (.int .u32))), (27, .c (.data (.int .u32))), (28, .c .sc), (29, .c .sc)] else [] }
noncomputable def limbs_Left_c : Code := (Tryz.f55.body).getD .skip
noncomputable def limbs_Left_fin := finish Γ_limbs_Left Tryz.f55.results.toList (.pair lU tE) []
noncomputable def limbs_Left_k0 (κ : Kt (.pair lU tE)) (a : Int) (b c : List Int) (d e : Int) := κ { t := (upd (upd (upd (upd (upd (fun _ => .undef) 1 (.one (.int .i64 a))) 6 (.one (.own 100))) 27 (.one (.sl (.int .u32) c))) 28 (.one (.int .i64 d))) 29 (.one (.int .i64 e))), m := (upd (upd (fun _ => .free) 0 .held) 100 (.row true 110 (.int .u32) b)), nx := 1000000, n := 65 }
noncomputable def limbs_Left_A0 (K : Nat) := loopAt Γ_limbs_Left K [.r, .r, .r, .l, .r, .b] limbs_Left_c [] limbs_Left_fin (fun _ _ => none) limbs_Left_fin
theorem limbs_Left_loop0 (K : Nat) : ∀ n, limbs_Left_k0 (limbs_Left_A0 K n) = limbs_Left_l0 K n
  | 0 => by kernel_rfl
  | n + 1 => Eq.trans (b := limbs_Left_s0 (limbs_Left_k0 (limbs_Left_A0 K n))) (by kernel_rfl) (by rw [limbs_Left_loop0 K n]; rfl)
theorem limbs_Left_eq (K : Nat) (a : List Int) (n : Int) : exF Γ_limbs_Left K Tryz.f55 (.pair lU tE) (.pair lU tE) [] (a, n, ()) = limbs_Left K a n :=
  Eq.trans (b := limbs_Left_b (limbs_Left_k0 (limbs_Left_A0 K K)) a n) (by kernel_rfl) (by rw [limbs_Left_loop0 K K]; rfl)
theorem env_limbs_Left : EnvOK Tryz.prog G Γ_limbs_Left := ⟨T_ok, ((phi_cons fn_limbs_fits phi_nil) : PhiOK Tryz.prog G Γ_limbs_Left.Φ), fun _ _ h => (by cases h), mixed⟩
theorem fn_limbs_Left : FnOK Tryz.prog G 55 en_limbs_Left := FnOK.of env_limbs_Left Tryz.func55 (by kernel_rfl) (by kernel_rfl) (of_decide_eq_true (by kernel_rfl)) (fun x y h => by obtain ⟨K, hK⟩ := limbs_Left_ok x y h; exact ⟨K, (limbs_Left_eq K x.1 x.2.1).trans hK⟩)

noncomputable def Γ_whole_Left : Env := { T := T, Φ := fun i => bif Nat.beq i 55 then some en_limbs_Left else bif Nat.beq i 72 then some en_whole_of else none, ann := fun i => [] }
theorem whole_Left_eq (K : Nat) (a : dI) (n : Int) : exF Γ_whole_Left K Tryz.f64 tY tY [] (a, n, ()) = whole_Left a n := by kernel_rfl
theorem env_whole_Left : EnvOK Tryz.prog G Γ_whole_Left := ⟨T_ok, ((phi_cons fn_limbs_Left (phi_cons fn_whole_of phi_nil)) : PhiOK Tryz.prog G Γ_whole_Left.Φ), fun _ _ h => (by cases h), mixed⟩
theorem fn_whole_Left : FnOK Tryz.prog G 64 en_whole_Left := FnOK.of env_whole_Left Tryz.func64 (by kernel_rfl) (by kernel_rfl) (of_decide_eq_true (by kernel_rfl)) (fun x y h => ⟨0, (whole_Left_eq 0 x.1 x.2.1).trans h⟩)

noncomputable def Γ_limbs_Bits : Env := { T := T, Φ := fun i => bif Nat.beq i 98 then some en_bits_Len32 else none, ann := fun i => [] }
theorem limbs_Bits_eq (K : Nat) (a : List Int) : exF Γ_limbs_Bits K Tryz.f73 (.pair lU .unit) tE [] (a, ()) = limbs_Bits a := by kernel_rfl
theorem env_limbs_Bits : EnvOK Tryz.prog G Γ_limbs_Bits := ⟨T_ok, ((phi_cons fn_bits_Len32 phi_nil) : PhiOK Tryz.prog G Γ_limbs_Bits.Φ), fun _ _ h => (by cases h), mixed⟩
theorem fn_limbs_Bits : FnOK Tryz.prog G 73 en_limbs_Bits := FnOK.of env_limbs_Bits Tryz.func73 (by kernel_rfl) (by kernel_rfl) (of_decide_eq_true (by kernel_rfl)) (fun x y h => ⟨0, (limbs_Bits_eq 0 x.1).trans h⟩)

noncomputable def Γ_whole_Div : Env := { T := T, Φ := fun i => bif Nat.beq i 28 then some en_limbs_Of else bif Nat.beq i 69 then some en_limbs_Div else bif Nat.beq i 72 then some en_whole_of else bif Nat.beq i 99 then some en_limbs_Sub else bif Nat.beq i 100 then some en_limbs_Add else none, ann := fun i => [] }
theorem whole_Div_eq (K : Nat) (a : dI) (b : dI) : exF Γ_whole_Div K Tryz.f74 (.pair tI (.pair tI .unit)) (.pair tI tY) [] (a, b, ()) = whole_Div a b := by kernel_rfl
theorem env_whole_Div : EnvOK Tryz.prog G Γ_whole_Div := ⟨T_ok, ((phi_cons fn_limbs_Of (phi_cons fn_limbs_Div (phi_cons fn_whole_of (phi_cons fn_limbs_Sub (phi_cons fn_limbs_Add phi_nil))))) : PhiOK Tryz.prog G Γ_whole_Div.Φ), fun _ _ h => (by cases h), mixed⟩
theorem fn_whole_Div : FnOK Tryz.prog G 74 en_whole_Div := FnOK.of env_whole_Div Tryz.func74 (by kernel_rfl) (by kernel_rfl) (of_decide_eq_true (by kernel_rfl)) (fun x y h => ⟨0, (whole_Div_eq 0 x.1 x.2.1).trans h⟩)

noncomputable def Γ_limbs_Tail : Env := { T := T, Φ := fun i => bif Nat.beq i 119 then some en_bits_TrailingZeros32 else none, ann := fun i => bif Nat.beq i 2 then [(5, .c (.data (.int .u32))), (6, .c .sc), (7, .c .sc)] else [] }
noncomputable def limbs_Tail_c : Code := (Tryz.f101.body).getD .skip
noncomputable def limbs_Tail_fin := finish Γ_limbs_Tail Tryz.f101.results.toList tE []
noncomputable def limbs_Tail_k0 (κ : Kt tE) (a : List Int) (b c : Int) := κ { t := (upd (upd (upd (fun _ => .undef) 5 (.one (.sl (.int .u32) a))) 6 (.one (.int .i64 b))) 7 (.one (.int .i64 c))), m := (upd (fun _ => .free) 0 .held), nx := 1000000, n := 20 }
noncomputable def limbs_Tail_A0 (K : Nat) := loopAt Γ_limbs_Tail K [.r, .l, .r, .b] limbs_Tail_c [] limbs_Tail_fin (fun _ _ => none) limbs_Tail_fin
theorem limbs_Tail_loop0 (K : Nat) : ∀ n, limbs_Tail_k0 (limbs_Tail_A0 K n) = limbs_Tail_l0 K n
  | 0 => by kernel_rfl
  | n + 1 => Eq.trans (b := limbs_Tail_s0 (limbs_Tail_k0 (limbs_Tail_A0 K n))) (by kernel_rfl) (by rw [limbs_Tail_loop0 K n]; rfl)
theorem limbs_Tail_eq (K : Nat) (a : List Int) : exF Γ_limbs_Tail K Tryz.f101 (.pair lU .unit) tE [] (a, ()) = limbs_Tail K a :=
  Eq.trans (b := limbs_Tail_b (limbs_Tail_k0 (limbs_Tail_A0 K K)) a) (by kernel_rfl) (by rw [limbs_Tail_loop0 K K]; rfl)
theorem env_limbs_Tail : EnvOK Tryz.prog G Γ_limbs_Tail := ⟨T_ok, ((phi_cons fn_bits_TrailingZeros32 phi_nil) : PhiOK Tryz.prog G Γ_limbs_Tail.Φ), fun _ _ h => (by cases h), mixed⟩
theorem fn_limbs_Tail : FnOK Tryz.prog G 101 en_limbs_Tail := FnOK.of env_limbs_Tail Tryz.func101 (by kernel_rfl) (by kernel_rfl) (of_decide_eq_true (by kernel_rfl)) (fun x y h => by obtain ⟨K, hK⟩ := limbs_Tail_ok x y h; exact ⟨K, (limbs_Tail_eq K x.1).trans hK⟩)

noncomputable def Γ_whole_Right : Env := { T := T, Φ := fun i => bif Nat.beq i 28 then some en_limbs_Of else bif Nat.beq i 72 then some en_whole_of else bif Nat.beq i 100 then some en_limbs_Add else bif Nat.beq i 101 then some en_limbs_Tail else bif Nat.beq i 118 then some en_limbs_Right else none, ann := fun i => [] }
theorem whole_Right_eq (K : Nat) (a : dI) (n : Int) : exF Γ_whole_Right K Tryz.f102 tY tY [] (a, n, ()) = whole_Right a n := by kernel_rfl
theorem env_whole_Right : EnvOK Tryz.prog G Γ_whole_Right := ⟨T_ok, ((phi_cons fn_limbs_Of (phi_cons fn_whole_of (phi_cons fn_limbs_Add (phi_cons fn_limbs_Tail (phi_cons fn_limbs_Right phi_nil))))) : PhiOK Tryz.prog G Γ_whole_Right.Φ), fun _ _ h => (by cases h), mixed⟩
theorem fn_whole_Right : FnOK Tryz.prog G 102 en_whole_Right := FnOK.of env_whole_Right Tryz.func102 (by kernel_rfl) (by kernel_rfl) (of_decide_eq_true (by kernel_rfl)) (fun x y h => ⟨0, (whole_Right_eq 0 x.1 x.2.1).trans h⟩)

noncomputable def Γ_dyad_Make : Env := { T := T, Φ := fun i => bif Nat.beq i 36 then some en_whole_Sign else bif Nat.beq i 101 then some en_limbs_Tail else bif Nat.beq i 102 then some en_whole_Right else none, ann := fun i => [] }
theorem dyad_Make_eq (K : Nat) (man : dI) (exp : Int) : exF Γ_dyad_Make K Tryz.f76 tY (.pair tY tE) [] (man, exp, ()) = dyad_Make man exp := by kernel_rfl
theorem env_dyad_Make : EnvOK Tryz.prog G Γ_dyad_Make := ⟨T_ok, ((phi_cons fn_whole_Sign (phi_cons fn_limbs_Tail (phi_cons fn_whole_Right phi_nil))) : PhiOK Tryz.prog G Γ_dyad_Make.Φ), fun _ _ h => (by cases h), mixed⟩
theorem fn_dyad_Make : FnOK Tryz.prog G 76 en_dyad_Make := FnOK.of env_dyad_Make Tryz.func76 (by kernel_rfl) (by kernel_rfl) (of_decide_eq_true (by kernel_rfl)) (fun x y h => ⟨0, (dyad_Make_eq 0 x.1 x.2.1).trans h⟩)

noncomputable def Γ_whole_Neg : Env := { T := T, Φ := fun i => bif Nat.beq i 70 then some en_slices_Clone_api_Nat_uint32 else bif Nat.beq i 72 then some en_whole_of else none, ann := fun i => [], ord := fun i => bif Nat.beq i 1 then [0, 1, 2, 3, 4, 5, 6, 7] else [] }
theorem whole_Neg_eq (K : Nat) (a : dI) : exF Γ_whole_Neg K Tryz.f103 (.pair tI .unit) (.pair tI .unit) [] (a, ()) = whole_Neg a := by kernel_rfl
theorem env_whole_Neg : EnvOK Tryz.prog G Γ_whole_Neg := ⟨T_ok, ((phi_cons fn_slices_Clone_api_Nat_uint32 (phi_cons fn_whole_of phi_nil)) : PhiOK Tryz.prog G Γ_whole_Neg.Φ), fun _ _ h => (by cases h), mixed⟩
theorem fn_whole_Neg : FnOK Tryz.prog G 103 en_whole_Neg := FnOK.of env_whole_Neg Tryz.func103 (by kernel_rfl) (by kernel_rfl) (of_decide_eq_true (by kernel_rfl)) (fun x y h => ⟨0, (whole_Neg_eq 0 x.1).trans h⟩)

noncomputable def Γ_dyad_Round : Env := { T := T, Φ := fun i => bif Nat.beq i 73 then some en_limbs_Bits else bif Nat.beq i 76 then some en_dyad_Make else bif Nat.beq i 102 then some en_whole_Right else bif Nat.beq i 103 then some en_whole_Neg else none, ann := fun i => [] }
theorem dyad_Round_eq (K : Nat) (a : dY) (bits : Int) (up : Bool) : exF Γ_dyad_Round K Tryz.f77 (.pair tY (.pair (.int .i64) (.pair .bool .unit))) (.pair tY tE) [] (a, bits, up, ()) = dyad_Round a bits up := by kernel_rfl
theorem env_dyad_Round : EnvOK Tryz.prog G Γ_dyad_Round := ⟨T_ok, ((phi_cons fn_limbs_Bits (phi_cons fn_dyad_Make (phi_cons fn_whole_Right (phi_cons fn_whole_Neg phi_nil)))) : PhiOK Tryz.prog G Γ_dyad_Round.Φ), fun _ _ h => (by cases h), mixed⟩
theorem fn_dyad_Round : FnOK Tryz.prog G 77 en_dyad_Round := FnOK.of env_dyad_Round Tryz.func77 (by kernel_rfl) (by kernel_rfl) (of_decide_eq_true (by kernel_rfl)) (fun x y h => ⟨0, (dyad_Round_eq 0 x.1 x.2.1 x.2.2.1).trans h⟩)

noncomputable def Γ_dyad_Near : Env := { T := T, Φ := fun i => bif Nat.beq i 10 then some en_ratio_Sign else bif Nat.beq i 36 then some en_whole_Sign else bif Nat.beq i 43 then some en_whole_Of else bif Nat.beq i 56 then some en_whole_Nat else bif Nat.beq i 64 then some en_whole_Left else bif Nat.beq i 73 then some en_limbs_Bits else bif Nat.beq i 74 then some en_whole_Div else bif Nat.beq i 75 then some en_whole_Add else bif Nat.beq i 76 then some en_dyad_Make else bif Nat.beq i 77 then some en_dyad_Round else none, ann := fun i => [], ord := fun i => bif Nat.beq i 5 then [0, 1, 2, 3, 6, 7, 4, 5, 8, 9, 10, 11] else bif Nat.beq i 6 then [0, 1, 2, 3, 4, 5, 6, 7, 8] else bif Nat.beq i 15 then [0, 1, 2, 3, 4, 5, 6, 7] else [] }
theorem dyad_Near_eq (K : Nat) (a : dR) (bits : Int) (up : Bool) : exF Γ_dyad_Near K Tryz.f44 (.pair tR (.pair (.int .i64) (.pair .bool .unit))) (.pair tY tE) [] (a, bits, up, ()) = dyad_Near a bits up := by kernel_rfl
theorem env_dyad_Near : EnvOK Tryz.prog G Γ_dyad_Near := ⟨T_ok, ((phi_cons fn_ratio_Sign (phi_cons fn_whole_Sign (phi_cons fn_whole_Of (phi_cons fn_whole_Nat (phi_cons fn_whole_Left (phi_cons fn_limbs_Bits (phi_cons fn_whole_Div (phi_cons fn_whole_Add (phi_cons fn_dyad_Make (phi_cons fn_dyad_Round phi_nil)))))))))) : PhiOK Tryz.prog G Γ_dyad_Near.Φ), fun _ _ h => (by cases h), mixed⟩
theorem fn_dyad_Near : FnOK Tryz.prog G 44 en_dyad_Near := FnOK.of env_dyad_Near Tryz.func44 (by kernel_rfl) (by kernel_rfl) (of_decide_eq_true (by kernel_rfl)) (fun x y h => ⟨0, (dyad_Near_eq 0 x.1 x.2.1 x.2.2.1).trans h⟩)

noncomputable def Γ_span_Near : Env := { T := T, Φ := fun i => bif Nat.beq i 44 then some en_dyad_Near else none, ann := fun i => [] }
theorem span_Near_eq (K : Nat) (a : dR) (bits : Int) : exF Γ_span_Near K Tryz.f15 (.pair tR tE) (.pair tS tE) [] (a, bits, ()) = span_Near a bits := by kernel_rfl
theorem env_span_Near : EnvOK Tryz.prog G Γ_span_Near := ⟨T_ok, ((phi_cons fn_dyad_Near phi_nil) : PhiOK Tryz.prog G Γ_span_Near.Φ), fun _ _ h => (by cases h), mixed⟩
theorem fn_span_Near : FnOK Tryz.prog G 15 en_span_Near := FnOK.of env_span_Near Tryz.func15 (by kernel_rfl) (by kernel_rfl) (of_decide_eq_true (by kernel_rfl)) (fun x y h => ⟨0, (span_Near_eq 0 x.1 x.2.1).trans h⟩)

noncomputable def Γ_vec_Near : Env := { T := T, Φ := fun i => bif Nat.beq i 15 then some en_span_Near else none, ann := fun i => bif Nat.beq i 3 then [(1, .c .sc), (6, .c (.own 100 41 tS)), (14, .c (.data tR)), (15, .c .sc), (16, .c .sc)] else [] }
noncomputable def vec_Near_c : Code := (Tryz.f84.body).getD .skip
noncomputable def vec_Near_fin := finish Γ_vec_Near Tryz.f84.results.toList (.pair lS tE) []
noncomputable def vec_Near_k0 (κ : Kt (.pair lS tE)) (a : Int) (b : List dS) (c : List dR) (d e : Int) := κ { t := (upd (upd (upd (upd (upd (fun _ => .undef) 1 (.one (.int .i64 a))) 6 (.one (.own 100))) 14 (.one (.sl tR c))) 15 (.one (.int .i64 d))) 16 (.one (.int .i64 e))), m := (upd (upd (fun _ => .free) 0 .held) 100 (.row true 41 tS b)), nx := 1000000, n := 36 }
noncomputable def vec_Near_A0 (K : Nat) := loopAt Γ_vec_Near K [.r, .r, .l, .r, .b] vec_Near_c [] vec_Near_fin (fun _ _ => none) vec_Near_fin
theorem vec_Near_loop0 (K : Nat) : ∀ n, vec_Near_k0 (vec_Near_A0 K n) = vec_Near_l0 K n
  | 0 => by kernel_rfl
  | n + 1 => Eq.trans (b := vec_Near_s0 (vec_Near_k0 (vec_Near_A0 K n))) (by kernel_rfl) (by rw [vec_Near_loop0 K n]; rfl)
theorem vec_Near_eq (K : Nat) (a : List dR) (bits : Int) : exF Γ_vec_Near K Tryz.f84 (.pair lR tE) (.pair lS tE) [] (a, bits, ()) = vec_Near K a bits :=
  Eq.trans (b := vec_Near_b (vec_Near_k0 (vec_Near_A0 K K)) a bits) (by kernel_rfl) (by rw [vec_Near_loop0 K K]; rfl)
theorem env_vec_Near : EnvOK Tryz.prog G Γ_vec_Near := ⟨T_ok, ((phi_cons fn_span_Near phi_nil) : PhiOK Tryz.prog G Γ_vec_Near.Φ), fun _ _ h => (by cases h), mixed⟩
theorem fn_vec_Near : FnOK Tryz.prog G 84 en_vec_Near := FnOK.of env_vec_Near Tryz.func84 (by kernel_rfl) (by kernel_rfl) (of_decide_eq_true (by kernel_rfl)) (fun x y h => ⟨100, (vec_Near_eq 100 x.1 x.2.1).trans h⟩)

noncomputable def Γ_mat_Near : Env := { T := T, Φ := fun i => bif Nat.beq i 84 then some en_vec_Near else none, ann := fun i => bif Nat.beq i 3 then [(1, .c .sc), (6, .c (.own 100 56 lS)), (14, .c (.data lR)), (15, .c .sc), (16, .c .sc)] else [] }
noncomputable def mat_Near_c : Code := (Tryz.f57.body).getD .skip
noncomputable def mat_Near_fin := finish Γ_mat_Near Tryz.f57.results.toList (.pair (.sl lS) tE) []
noncomputable def mat_Near_k0 (κ : Kt (.pair (.sl lS) tE)) (a : Int) (b : List (List dS)) (c : List (List dR)) (d e : Int) := κ { t := (upd (upd (upd (upd (upd (fun _ => .undef) 1 (.one (.int .i64 a))) 6 (.one (.own 100))) 14 (.one (.sl lR c))) 15 (.one (.int .i64 d))) 16 (.one (.int .i64 e))), m := (upd (upd (fun _ => .free) 0 .held) 100 (.row true 56 lS b)), nx := 1000000, n := 36 }
noncomputable def mat_Near_A0 (K : Nat) := loopAt Γ_mat_Near K [.r, .r, .l, .r, .b] mat_Near_c [] mat_Near_fin (fun _ _ => none) mat_Near_fin
theorem mat_Near_loop0 (K : Nat) : ∀ n, mat_Near_k0 (mat_Near_A0 K n) = mat_Near_l0 K n
  | 0 => by kernel_rfl
  | n + 1 => Eq.trans (b := mat_Near_s0 (mat_Near_k0 (mat_Near_A0 K n))) (by kernel_rfl) (by rw [mat_Near_loop0 K n]; rfl)
theorem mat_Near_eq (K : Nat) (a : List (List dR)) (bits : Int) : exF Γ_mat_Near K Tryz.f57 (.pair (.sl lR) tE) (.pair (.sl lS) tE) [] (a, bits, ()) = mat_Near K a bits :=
  Eq.trans (b := mat_Near_b (mat_Near_k0 (mat_Near_A0 K K)) a bits) (by kernel_rfl) (by rw [mat_Near_loop0 K K]; rfl)
theorem env_mat_Near : EnvOK Tryz.prog G Γ_mat_Near := ⟨T_ok, ((phi_cons fn_vec_Near phi_nil) : PhiOK Tryz.prog G Γ_mat_Near.Φ), fun _ _ h => (by cases h), mixed⟩
theorem fn_mat_Near : FnOK Tryz.prog G 57 en_mat_Near := FnOK.of env_mat_Near Tryz.func57 (by kernel_rfl) (by kernel_rfl) (of_decide_eq_true (by kernel_rfl)) (fun x y h => ⟨100, (mat_Near_eq 100 x.1 x.2.1).trans h⟩)

noncomputable def Γ_series_Terms : Env := { T := T, Φ := fun i => bif Nat.beq i 28 then some en_limbs_Of else bif Nat.beq i 43 then some en_whole_Of else bif Nat.beq i 71 then some en_limbs_Mul else bif Nat.beq i 73 then some en_limbs_Bits else bif Nat.beq i 76 then some en_dyad_Make else none, ann := fun i => bif Nat.beq i 3 then [(0, .c .sc), (3, .var 100 [.sc, .data (.int .u32), .sc]), (4, .c (.data (.int .u32))), (5, .c .sc)] else [], ord := fun i => bif Nat.beq i 7 then [0, 1, 2, 3] else [] }
noncomputable def series_Terms_c : Code := (Tryz.f58.body).getD .skip
noncomputable def series_Terms_fin := finish Γ_series_Terms Tryz.f58.results.toList (.pair (.int .i64) (.pair tY .unit)) []
noncomputable def series_Terms_k0 (κ : Kt (.pair (.int .i64) (.pair tY .unit))) (a : Int) (b : Bool) (c : List Int) (d : Int) (e : List Int) (f : Int) := κ { t := (upd (upd (upd (upd (fun _ => .undef) 0 (.one (.int .i64 a))) 3 (.one (.vptr 100 0))) 4 (.one (.sl (.int .u32) e))) 5 (.one (.int .i64 f))), m := (upd (upd (fun _ => .free) 0 .held) 100 (.var true [.bool b, .sl (.int .u32) c, .int .i64 d])), nx := 1000000, n := 35 }
noncomputable def series_Terms_A0 (K : Nat) := loopAt Γ_series_Terms K [.r, .r, .r, .l, .b] series_Terms_c [] series_Terms_fin (fun _ _ => none) series_Terms_fin
theorem series_Terms_loop0 (K : Nat) : ∀ n, series_Terms_k0 (series_Terms_A0 K n) = series_Terms_l0 K n
  | 0 => by kernel_rfl
  | n + 1 => Eq.trans (b := series_Terms_s0 (series_Terms_k0 (series_Terms_A0 K n))) (by kernel_rfl) (by rw [series_Terms_loop0 K n]; rfl)
theorem series_Terms_eq (K : Nat) (bits : Int) : exF Γ_series_Terms K Tryz.f58 tE (.pair (.int .i64) (.pair tY .unit)) [] (bits, ()) = series_Terms K bits :=
  Eq.trans (b := series_Terms_b (series_Terms_k0 (series_Terms_A0 K K)) bits) (by kernel_rfl) (by rw [series_Terms_loop0 K K]; rfl)
theorem env_series_Terms : EnvOK Tryz.prog G Γ_series_Terms := ⟨T_ok, ((phi_cons fn_limbs_Of (phi_cons fn_whole_Of (phi_cons fn_limbs_Mul (phi_cons fn_limbs_Bits (phi_cons fn_dyad_Make phi_nil))))) : PhiOK Tryz.prog G Γ_series_Terms.Φ), fun _ _ h => (by cases h), mixed⟩
theorem fn_series_Terms : FnOK Tryz.prog G 58 en_series_Terms := FnOK.of env_series_Terms Tryz.func58 (by kernel_rfl) (by kernel_rfl) (of_decide_eq_true (by kernel_rfl)) (fun x y h => ⟨100, (series_Terms_eq 100 x.1).trans h⟩)

noncomputable def Γ_vec_Zero : Env := { T := T, Φ := fun i => bif Nat.beq i 6 then some en_ratio_Zero else none, ann := fun i => bif Nat.beq i 3 then [(3, .c (.own 100 28 tR)), (10, .c .sc), (11, .c .sc)] else [] }
noncomputable def vec_Zero_c : Code := (Tryz.f37.body).getD .skip
noncomputable def vec_Zero_fin := finish Γ_vec_Zero Tryz.f37.results.toList (.pair lR .unit) [some 28]
noncomputable def vec_Zero_k0 (κ : Kt (.pair lR .unit)) (a : List dR) (b c : Int) := κ { t := (upd (upd (upd (fun _ => .undef) 3 (.one (.own 100))) 10 (.one (.int .i64 b))) 11 (.one (.int .i64 c))), m := (upd (upd (fun _ => .free) 0 .held) 100 (.row true 28 tR a)), nx := 1000000, n := 20 }
noncomputable def vec_Zero_A0 (K : Nat) := loopAt Γ_vec_Zero K [.r, .r, .l, .r, .b] vec_Zero_c [] vec_Zero_fin (fun _ _ => none) vec_Zero_fin
theorem vec_Zero_loop0 (K : Nat) : ∀ n, vec_Zero_k0 (vec_Zero_A0 K n) = vec_Zero_l0 K n
  | 0 => by kernel_rfl
  | n + 1 => Eq.trans (b := vec_Zero_s0 (vec_Zero_k0 (vec_Zero_A0 K n))) (by kernel_rfl) (by rw [vec_Zero_loop0 K n]; rfl)
theorem vec_Zero_eq (K : Nat) (n : Int) : exF Γ_vec_Zero K Tryz.f37 tE (.pair lR .unit) [some 28] (n, ()) = vec_Zero K n :=
  Eq.trans (b := vec_Zero_b (vec_Zero_k0 (vec_Zero_A0 K K)) n) (by kernel_rfl) (by rw [vec_Zero_loop0 K K]; rfl)
theorem env_vec_Zero : EnvOK Tryz.prog G Γ_vec_Zero := ⟨T_ok, ((phi_cons fn_ratio_Zero phi_nil) : PhiOK Tryz.prog G Γ_vec_Zero.Φ), fun _ _ h => (by cases h), mixed⟩
theorem fn_vec_Zero : FnOK Tryz.prog G 37 en_vec_Zero := FnOK.of env_vec_Zero Tryz.func37 (by kernel_rfl) (by kernel_rfl) (of_decide_eq_true (by kernel_rfl)) (fun x y h => ⟨100, (vec_Zero_eq 100 x.1).trans h⟩)

noncomputable def Γ_mat_Zero : Env := { T := T, Φ := fun i => bif Nat.beq i 37 then some en_vec_Zero else none, deep := true, ann := fun i => bif Nat.beq i 3 then [(1, .c .sc), (5, .c (.deep 100 22 28 tR)), (12, .c .sc), (13, .c .sc)] else [] }
noncomputable def mat_Zero_c : Code := (Tryz.f11.body).getD .skip
noncomputable def mat_Zero_fin := finish Γ_mat_Zero Tryz.f11.results.toList (.pair (.sl lR) .unit) [some 28000022]
noncomputable def mat_Zero_k0 (κ : Kt (.pair (.sl lR) .unit)) (a : Int) (b : List (List dR)) (c d : Int) := κ { t := (upd (upd (upd (upd (fun _ => .undef) 1 (.one (.int .i64 a))) 5 (.one (.own 100))) 12 (.one (.int .i64 c))) 13 (.one (.int .i64 d))), m := (upd (upd (fun _ => .free) 0 .held) 100 (.deep true 22 28 tR b none 0)), nx := 1000000, n := 23 }
noncomputable def mat_Zero_A0 (K : Nat) := loopAt Γ_mat_Zero K [.r, .r, .l, .r, .b] mat_Zero_c [] mat_Zero_fin (fun _ _ => none) mat_Zero_fin
theorem mat_Zero_loop0 (K : Nat) : ∀ n, mat_Zero_k0 (mat_Zero_A0 K n) = mat_Zero_l0 K n
  | 0 => by kernel_rfl
  | n + 1 => Eq.trans (b := mat_Zero_s0 (mat_Zero_k0 (mat_Zero_A0 K n))) (by kernel_rfl) (by rw [mat_Zero_loop0 K n]; rfl)
theorem mat_Zero_eq (K : Nat) (rows : Int) (cols : Int) : exF Γ_mat_Zero K Tryz.f11 (.pair (.int .i64) tE) (.pair (.sl lR) .unit) [some 28000022] (rows, cols, ()) = mat_Zero K rows cols :=
  Eq.trans (b := mat_Zero_b (mat_Zero_k0 (mat_Zero_A0 K K)) rows cols) (by kernel_rfl) (by rw [mat_Zero_loop0 K K]; rfl)
theorem env_mat_Zero : EnvOK Tryz.prog G Γ_mat_Zero := ⟨T_ok, ((phi_cons fn_vec_Zero phi_nil) : PhiOK Tryz.prog G Γ_mat_Zero.Φ), fun _ _ h => (by cases h), mixed⟩
theorem fn_mat_Zero : FnOK Tryz.prog G 11 en_mat_Zero := FnOK.of env_mat_Zero Tryz.func11 (by kernel_rfl) (by kernel_rfl) (of_decide_eq_true (by kernel_rfl)) (fun x y h => ⟨100, (mat_Zero_eq 100 x.1 x.2.1).trans h⟩)

noncomputable def Γ_vec_Unit : Env := { T := T, Φ := fun i => bif Nat.beq i 14 then some en_ratio_Of else bif Nat.beq i 37 then some en_vec_Zero else none, ann := fun i => [] }
theorem vec_Unit_eq (K : Nat) (n : Int) (at_ : Int) : exF Γ_vec_Unit K Tryz.f27 (.pair (.int .i64) tE) (.pair lR .unit) [some 28] (n, at_, ()) = vec_Unit n at_ := by kernel_rfl
theorem env_vec_Unit : EnvOK Tryz.prog G Γ_vec_Unit := ⟨T_ok, ((phi_cons fn_ratio_Of (phi_cons fn_vec_Zero phi_nil)) : PhiOK Tryz.prog G Γ_vec_Unit.Φ), fun _ _ h => (by cases h), mixed⟩
theorem fn_vec_Unit : FnOK Tryz.prog G 27 en_vec_Unit := FnOK.of env_vec_Unit Tryz.func27 (by kernel_rfl) (by kernel_rfl) (of_decide_eq_true (by kernel_rfl)) (fun x y h => ⟨0, (vec_Unit_eq 0 x.1 x.2.1).trans h⟩)

noncomputable def Γ_mat_One : Env := { T := T, Φ := fun i => bif Nat.beq i 11 then some en_mat_Zero else bif Nat.beq i 27 then some en_vec_Unit else none, ann := fun i => bif Nat.beq i 3 then [(0, .c .sc), (3, .c (.deep 100 22 28 tR)), (9, .c .sc), (10, .c .sc)] else [] }
noncomputable def mat_One_c : Code := (Tryz.f5.body).getD .skip
noncomputable def mat_One_fin := finish Γ_mat_One Tryz.f5.results.toList (.pair (.sl lR) .unit) []
noncomputable def mat_One_k0 (κ : Kt (.pair (.sl lR) .unit)) (a : Int) (b : List (List dR)) (c d : Int) := κ { t := (upd (upd (upd (upd (fun _ => .undef) 0 (.one (.int .i64 a))) 3 (.one (.own 100))) 9 (.one (.int .i64 c))) 10 (.one (.int .i64 d))), m := (upd (upd (fun _ => .free) 0 .held) 100 (.deep true 22 28 tR b none 0)), nx := 1000000, n := 21 }
noncomputable def mat_One_A0 (K : Nat) := loopAt Γ_mat_One K [.r, .r, .l, .r, .b] mat_One_c [] mat_One_fin (fun _ _ => none) mat_One_fin
theorem mat_One_loop0 (K : Nat) : ∀ n, mat_One_k0 (mat_One_A0 K n) = mat_One_l0 K n
  | 0 => by kernel_rfl
  | n + 1 => Eq.trans (b := mat_One_s0 (mat_One_k0 (mat_One_A0 K n))) (by kernel_rfl) (by rw [mat_One_loop0 K n]; rfl)
theorem mat_One_eq (K : Nat) (n : Int) : exF Γ_mat_One K Tryz.f5 tE (.pair (.sl lR) .unit) [] (n, ()) = mat_One K n :=
  Eq.trans (b := mat_One_b (mat_One_k0 (mat_One_A0 K K)) n) (by kernel_rfl) (by rw [mat_One_loop0 K K]; rfl)
theorem env_mat_One : EnvOK Tryz.prog G Γ_mat_One := ⟨T_ok, ((phi_cons fn_mat_Zero (phi_cons fn_vec_Unit phi_nil)) : PhiOK Tryz.prog G Γ_mat_One.Φ), fun _ _ h => (by cases h), mixed⟩
theorem fn_mat_One : FnOK Tryz.prog G 5 en_mat_One := FnOK.of env_mat_One Tryz.func5 (by kernel_rfl) (by kernel_rfl) (of_decide_eq_true (by kernel_rfl)) (fun x y h => ⟨100, (mat_One_eq 100 x.1).trans h⟩)

noncomputable def Γ_mat_grid_api_Span_shape : Env := { T := T, Φ := fun i => none, ann := fun i => bif Nat.beq i 4 then [(0, .c (.data lS)), (10, .c (.data lS)), (11, .c .sc), (12, .c .sc)] else [], ord := fun i => bif Nat.beq i 9 then [0, 1, 2, 3, 4, 5, 6, 7, 8] else [] }
noncomputable def mat_grid_api_Span_shape_c : Code := (Tryz.f89.body).getD .skip
noncomputable def mat_grid_api_Span_shape_fin := finish Γ_mat_grid_api_Span_shape Tryz.f89.results.toList (.pair (.int .i64) (.pair (.int .i64) tE)) []
noncomputable def mat_grid_api_Span_shape_k0 (κ : Kt (.pair (.int .i64) (.pair (.int .i64) tE))) (a b : List (List dS)) (c d : Int) := κ { t := (upd (upd (upd (upd (fun _ => .undef) 0 (.one (.sl lS a))) 10 (.one (.sl lS b))) 11 (.one (.int .i64 c))) 12 (.one (.int .i64 d))), m := (upd (fun _ => .free) 0 .held), nx := 1000000, n := 30 }
noncomputable def mat_grid_api_Span_shape_A0 (K : Nat) := loopAt Γ_mat_grid_api_Span_shape K [.r, .r, .l, .r, .b] mat_grid_api_Span_shape_c [] mat_grid_api_Span_shape_fin (fun _ _ => none) mat_grid_api_Span_shape_fin
theorem mat_grid_api_Span_shape_loop0 (K : Nat) : ∀ n, mat_grid_api_Span_shape_k0 (mat_grid_api_Span_shape_A0 K n) = mat_grid_api_Span_shape_l0 K n
  | 0 => by kernel_rfl
  | n + 1 => Eq.trans (b := mat_grid_api_Span_shape_s0 (mat_grid_api_Span_shape_k0 (mat_grid_api_Span_shape_A0 K n))) (by kernel_rfl) (by rw [mat_grid_api_Span_shape_loop0 K n]; rfl)
theorem mat_grid_api_Span_shape_eq (K : Nat) (a : List (List dS)) : exF Γ_mat_grid_api_Span_shape K Tryz.f89 (.pair (.sl lS) .unit) (.pair (.int .i64) (.pair (.int .i64) tE)) [] (a, ()) = mat_grid_api_Span_shape K a :=
  Eq.trans (b := mat_grid_api_Span_shape_b (mat_grid_api_Span_shape_k0 (mat_grid_api_Span_shape_A0 K K)) a) (by kernel_rfl) (by rw [mat_grid_api_Span_shape_loop0 K K]; rfl)
theorem env_mat_grid_api_Span_shape : EnvOK Tryz.prog G Γ_mat_grid_api_Span_shape := ⟨T_ok, (phi_nil : PhiOK Tryz.prog G Γ_mat_grid_api_Span_shape.Φ), fun _ _ h => (by cases h), mixed⟩
theorem fn_mat_grid_api_Span_shape : FnOK Tryz.prog G 89 en_mat_grid_api_Span_shape := FnOK.of env_mat_grid_api_Span_shape Tryz.func89 (by kernel_rfl) (by kernel_rfl) (of_decide_eq_true (by kernel_rfl)) (fun x y h => ⟨100, (mat_grid_api_Span_shape_eq 100 x.1).trans h⟩)

noncomputable def Γ_mat_turn_api_Span : Env := { T := T, Φ := fun i => bif Nat.beq i 89 then some en_mat_grid_api_Span_shape else none, deep := true, ann := fun i => bif Nat.beq i 6 then [(0, .c (.data lS)), (7, .c (.deep 100 56 41 tS)), (23, .c .sc), (24, .c .sc)] else bif Nat.beq i 9 then [(0, .c (.data lS)), (7, .c (.deep 100 56 41 tS)), (8, .c .sc), (23, .c .sc), (24, .c .sc), (27, .c (.data lS)), (28, .c .sc), (29, .c .sc)] else [], ord := fun i => bif Nat.beq i 11 then [0, 1, 2, 3, 4, 5, 6, 7, 8, 9, 10, 11, 12, 13] else [] }
noncomputable def mat_turn_api_Span_c : Code := (Tryz.f88.body).getD .skip
noncomputable def mat_turn_api_Span_fin := finish Γ_mat_turn_api_Span Tryz.f88.results.toList (.pair (.sl lS) tE) []
noncomputable def mat_turn_api_Span_k0 (κ : Kt (.pair (.sl lS) tE)) (a b : List (List dS)) (c d : Int) := κ { t := (upd (upd (upd (upd (fun _ => .undef) 0 (.one (.sl lS a))) 7 (.one (.own 100))) 23 (.one (.int .i64 c))) 24 (.one (.int .i64 d))), m := (upd (upd (fun _ => .free) 0 .held) 100 (.deep true 56 41 tS b none 0)), nx := 1000000, n := 49 }
noncomputable def mat_turn_api_Span_k1 (κ : Kt (.pair (.sl lS) tE)) (a b : List (List dS)) (c d e : Int) (f : List (List dS)) (g h : Int) := κ { t := (upd (upd (upd (upd (upd (upd (upd (upd (fun _ => .undef) 0 (.one (.sl lS a))) 7 (.one (.own 100))) 8 (.one (.int .i64 c))) 23 (.one (.int .i64 d))) 24 (.one (.int .i64 e))) 27 (.one (.sl lS f))) 28 (.one (.int .i64 g))) 29 (.one (.int .i64 h))), m := (upd (upd (fun _ => .free) 0 .held) 100 (.deep true 56 41 tS b none 0)), nx := 1000000, n := 49 }
noncomputable def mat_turn_api_Span_A1 (K : Nat) (κ0 : Kt (.pair (.sl lS) tE)) := loopAt Γ_mat_turn_api_Span K [.r, .r, .r, .r, .l, .r, .b, .c, .r, .r, .l, .b, .r, .r, .b] mat_turn_api_Span_c [fun st => mask [(0, .c (.data lS)), (7, .c (.deep 100 56 41 tS)), (23, .c .sc), (24, .c .sc)] 1000000 st (κ0)] mat_turn_api_Span_fin (fun _ _ => none) mat_turn_api_Span_fin
theorem mat_turn_api_Span_loop1 (K : Nat) (κ0 : Kt (.pair (.sl lS) tE)) : ∀ n, mat_turn_api_Span_k1 (mat_turn_api_Span_A1 K κ0 n) = mat_turn_api_Span_l1 K (mat_turn_api_Span_k0 κ0) n
  | 0 => by kernel_rfl
  | n + 1 => Eq.trans (b := mat_turn_api_Span_s1 (mat_turn_api_Span_k0 κ0) (mat_turn_api_Span_k1 (mat_turn_api_Span_A1 K κ0 n))) (by kernel_rfl) (by rw [mat_turn_api_Span_loop1 K κ0 n]; rfl)
noncomputable def mat_turn_api_Span_A0 (K : Nat) := loopAt Γ_mat_turn_api_Span K [.r, .r, .r, .r, .l, .r, .b] mat_turn_api_Span_c [] mat_turn_api_Span_fin (fun _ _ => none) mat_turn_api_Span_fin
theorem mat_turn_api_Span_loop0 (K : Nat) : ∀ n, mat_turn_api_Span_k0 (mat_turn_api_Span_A0 K n) = mat_turn_api_Span_l0 K n
  | 0 => by kernel_rfl
  | n + 1 => Eq.trans (b := mat_turn_api_Span_s0 (mat_turn_api_Span_k1 (mat_turn_api_Span_A1 K (mat_turn_api_Span_A0 K n) K)) (mat_turn_api_Span_k0 (mat_turn_api_Span_A0 K n))) (by kernel_rfl) (by rw [mat_turn_api_Span_loop1 K (mat_turn_api_Span_A0 K n) K, mat_turn_api_Span_loop0 K n]; rfl)
theorem mat_turn_api_Span_eq (K : Nat) (a : List (List dS)) : exF Γ_mat_turn_api_Span K Tryz.f88 (.pair (.sl lS) .unit) (.pair (.sl lS) tE) [] (a, ()) = mat_turn_api_Span K a :=
  Eq.trans (b := mat_turn_api_Span_b (mat_turn_api_Span_k0 (mat_turn_api_Span_A0 K K)) a) (by kernel_rfl) (by rw [mat_turn_api_Span_loop0 K K]; rfl)
theorem env_mat_turn_api_Span : EnvOK Tryz.prog G Γ_mat_turn_api_Span := ⟨T_ok, ((phi_cons fn_mat_grid_api_Span_shape phi_nil) : PhiOK Tryz.prog G Γ_mat_turn_api_Span.Φ), fun _ _ h => (by cases h), mixed⟩
theorem fn_mat_turn_api_Span : FnOK Tryz.prog G 88 en_mat_turn_api_Span := FnOK.of env_mat_turn_api_Span Tryz.func88 (by kernel_rfl) (by kernel_rfl) (of_decide_eq_true (by kernel_rfl)) (fun x y h => ⟨100, (mat_turn_api_Span_eq 100 x.1).trans h⟩)

noncomputable def Γ_dyad_Mul : Env := { T := T, Φ := fun i => bif Nat.beq i 38 then some en_whole_Mul else bif Nat.beq i 76 then some en_dyad_Make else none, ann := fun i => [] }
theorem dyad_Mul_eq (K : Nat) (a : dY) (b : dY) : exF Γ_dyad_Mul K Tryz.f45 tS (.pair tY tE) [] (a, b, ()) = dyad_Mul a b := by kernel_rfl
theorem env_dyad_Mul : EnvOK Tryz.prog G Γ_dyad_Mul := ⟨T_ok, ((phi_cons fn_whole_Mul (phi_cons fn_dyad_Make phi_nil)) : PhiOK Tryz.prog G Γ_dyad_Mul.Φ), fun _ _ h => (by cases h), mixed⟩
theorem fn_dyad_Mul : FnOK Tryz.prog G 45 en_dyad_Mul := FnOK.of env_dyad_Mul Tryz.func45 (by kernel_rfl) (by kernel_rfl) (of_decide_eq_true (by kernel_rfl)) (fun x y h => ⟨0, (dyad_Mul_eq 0 x.1 x.2.1).trans h⟩)

noncomputable def Γ_dyad_Sign : Env := { T := T, Φ := fun i => bif Nat.beq i 36 then some en_whole_Sign else none, ann := fun i => [] }
theorem dyad_Sign_eq (K : Nat) (a : dY) : exF Γ_dyad_Sign K Tryz.f104 (.pair tY .unit) tE [] (a, ()) = dyad_Sign a := by kernel_rfl
theorem env_dyad_Sign : EnvOK Tryz.prog G Γ_dyad_Sign := ⟨T_ok, ((phi_cons fn_whole_Sign phi_nil) : PhiOK Tryz.prog G Γ_dyad_Sign.Φ), fun _ _ h => (by cases h), mixed⟩
theorem fn_dyad_Sign : FnOK Tryz.prog G 104 en_dyad_Sign := FnOK.of env_dyad_Sign Tryz.func104 (by kernel_rfl) (by kernel_rfl) (of_decide_eq_true (by kernel_rfl)) (fun x y h => ⟨0, (dyad_Sign_eq 0 x.1).trans h⟩)

noncomputable def Γ_dyad_top : Env := { T := T, Φ := fun i => bif Nat.beq i 73 then some en_limbs_Bits else none, ann := fun i => [], ord := fun i => bif Nat.beq i 1 then [0, 1, 2, 3, 4, 5, 6, 7] else [] }
theorem dyad_top_eq (K : Nat) (a : dY) : exF Γ_dyad_top K Tryz.f105 (.pair tY .unit) tE [] (a, ()) = dyad_top a := by kernel_rfl
theorem env_dyad_top : EnvOK Tryz.prog G Γ_dyad_top := ⟨T_ok, ((phi_cons fn_limbs_Bits phi_nil) : PhiOK Tryz.prog G Γ_dyad_top.Φ), fun _ _ h => (by cases h), mixed⟩
theorem fn_dyad_top : FnOK Tryz.prog G 105 en_dyad_top := FnOK.of env_dyad_top Tryz.func105 (by kernel_rfl) (by kernel_rfl) (of_decide_eq_true (by kernel_rfl)) (fun x y h => ⟨0, (dyad_top_eq 0 x.1).trans h⟩)

noncomputable def Γ_dyad_level : Env := { T := T, Φ := fun i => bif Nat.beq i 64 then some en_whole_Left else bif Nat.beq i 104 then some en_dyad_Sign else none, ann := fun i => [], ord := fun i => bif Nat.beq i 2 then [0, 1, 2, 3, 4, 5, 6, 7, 8] else bif Nat.beq i 4 then [0, 1, 2, 3, 4, 5, 6, 7, 8] else bif Nat.beq i 9 then [0, 1, 2, 3, 4, 5, 6, 7] else bif Nat.beq i 10 then [0, 1, 2, 3, 4, 5, 6, 7] else [] }
theorem dyad_level_eq (K : Nat) (a : dY) (b : dY) : exF Γ_dyad_level K Tryz.f106 tS (.pair tI (.pair tI (.pair (.int .i64) tE))) [] (a, b, ()) = dyad_level a b := by kernel_rfl
theorem env_dyad_level : EnvOK Tryz.prog G Γ_dyad_level := ⟨T_ok, ((phi_cons fn_whole_Left (phi_cons fn_dyad_Sign phi_nil)) : PhiOK Tryz.prog G Γ_dyad_level.Φ), fun _ _ h => (by cases h), mixed⟩
theorem fn_dyad_level : FnOK Tryz.prog G 106 en_dyad_level := FnOK.of env_dyad_level Tryz.func106 (by kernel_rfl) (by kernel_rfl) (of_decide_eq_true (by kernel_rfl)) (fun x y h => ⟨0, (dyad_level_eq 0 x.1 x.2.1).trans h⟩)

noncomputable def Γ_dyad_Compare : Env := { T := T, Φ := fun i => bif Nat.beq i 41 then some en_whole_Compare else bif Nat.beq i 104 then some en_dyad_Sign else bif Nat.beq i 105 then some en_dyad_top else bif Nat.beq i 106 then some en_dyad_level else none, ann := fun i => [], ord := fun i => bif Nat.beq i 1 then [0, 2, 1, 3, 4, 5] else bif Nat.beq i 8 then [0, 2, 1, 3, 4, 5] else [] }
theorem dyad_Compare_eq (K : Nat) (a : dY) (b : dY) : exF Γ_dyad_Compare K Tryz.f79 tS tE [] (a, b, ()) = dyad_Compare a b := by kernel_rfl
theorem env_dyad_Compare : EnvOK Tryz.prog G Γ_dyad_Compare := ⟨T_ok, ((phi_cons fn_whole_Compare (phi_cons fn_dyad_Sign (phi_cons fn_dyad_top (phi_cons fn_dyad_level phi_nil)))) : PhiOK Tryz.prog G Γ_dyad_Compare.Φ), fun _ _ h => (by cases h), mixed⟩
theorem fn_dyad_Compare : FnOK Tryz.prog G 79 en_dyad_Compare := FnOK.of env_dyad_Compare Tryz.func79 (by kernel_rfl) (by kernel_rfl) (of_decide_eq_true (by kernel_rfl)) (fun x y h => ⟨0, (dyad_Compare_eq 0 x.1 x.2.1).trans h⟩)

noncomputable def Γ_dyad_Less : Env := { T := T, Φ := fun i => bif Nat.beq i 79 then some en_dyad_Compare else none, ann := fun i => [] }
theorem dyad_Less_eq (K : Nat) (a : dY) (b : dY) : exF Γ_dyad_Less K Tryz.f49 tS (.pair .bool .unit) [] (a, b, ()) = dyad_Less a b := by kernel_rfl
theorem env_dyad_Less : EnvOK Tryz.prog G Γ_dyad_Less := ⟨T_ok, ((phi_cons fn_dyad_Compare phi_nil) : PhiOK Tryz.prog G Γ_dyad_Less.Φ), fun _ _ h => (by cases h), mixed⟩
theorem fn_dyad_Less : FnOK Tryz.prog G 49 en_dyad_Less := FnOK.of env_dyad_Less Tryz.func49 (by kernel_rfl) (by kernel_rfl) (of_decide_eq_true (by kernel_rfl)) (fun x y h => ⟨0, (dyad_Less_eq 0 x.1 x.2.1).trans h⟩)

noncomputable def Γ_dyad_own : Env := { T := T, Φ := fun i => bif Nat.beq i 70 then some en_slices_Clone_api_Nat_uint32 else none, ann := fun i => [] }
theorem dyad_own_eq (K : Nat) (a : dY) : exF Γ_dyad_own K Tryz.f78 (.pair tY .unit) (.pair tY .unit) [] (a, ()) = dyad_own a := by kernel_rfl
theorem env_dyad_own : EnvOK Tryz.prog G Γ_dyad_own := ⟨T_ok, ((phi_cons fn_slices_Clone_api_Nat_uint32 phi_nil) : PhiOK Tryz.prog G Γ_dyad_own.Φ), fun _ _ h => (by cases h), mixed⟩
theorem fn_dyad_own : FnOK Tryz.prog G 78 en_dyad_own := FnOK.of env_dyad_own Tryz.func78 (by kernel_rfl) (by kernel_rfl) (of_decide_eq_true (by kernel_rfl)) (fun x y h => ⟨0, (dyad_own_eq 0 x.1).trans h⟩)

noncomputable def Γ_dyad_Min : Env := { T := T, Φ := fun i => bif Nat.beq i 49 then some en_dyad_Less else bif Nat.beq i 78 then some en_dyad_own else none, ann := fun i => [] }
theorem dyad_Min_eq (K : Nat) (a : dY) (b : dY) : exF Γ_dyad_Min K Tryz.f46 tS (.pair tY .unit) [] (a, b, ()) = dyad_Min a b := by kernel_rfl
theorem env_dyad_Min : EnvOK Tryz.prog G Γ_dyad_Min := ⟨T_ok, ((phi_cons fn_dyad_Less (phi_cons fn_dyad_own phi_nil)) : PhiOK Tryz.prog G Γ_dyad_Min.Φ), fun _ _ h => (by cases h), mixed⟩
theorem fn_dyad_Min : FnOK Tryz.prog G 46 en_dyad_Min := FnOK.of env_dyad_Min Tryz.func46 (by kernel_rfl) (by kernel_rfl) (of_decide_eq_true (by kernel_rfl)) (fun x y h => ⟨0, (dyad_Min_eq 0 x.1 x.2.1).trans h⟩)

noncomputable def Γ_dyad_Max : Env := { T := T, Φ := fun i => bif Nat.beq i 49 then some en_dyad_Less else bif Nat.beq i 78 then some en_dyad_own else none, ann := fun i => [] }
theorem dyad_Max_eq (K : Nat) (a : dY) (b : dY) : exF Γ_dyad_Max K Tryz.f47 tS (.pair tY .unit) [] (a, b, ()) = dyad_Max a b := by kernel_rfl
theorem env_dyad_Max : EnvOK Tryz.prog G Γ_dyad_Max := ⟨T_ok, ((phi_cons fn_dyad_Less (phi_cons fn_dyad_own phi_nil)) : PhiOK Tryz.prog G Γ_dyad_Max.Φ), fun _ _ h => (by cases h), mixed⟩
theorem fn_dyad_Max : FnOK Tryz.prog G 47 en_dyad_Max := FnOK.of env_dyad_Max Tryz.func47 (by kernel_rfl) (by kernel_rfl) (of_decide_eq_true (by kernel_rfl)) (fun x y h => ⟨0, (dyad_Max_eq 0 x.1 x.2.1).trans h⟩)

noncomputable def Γ_span_out : Env := { T := T, Φ := fun i => bif Nat.beq i 77 then some en_dyad_Round else none, ann := fun i => [] }
theorem span_out_eq (K : Nat) (lo : dY) (hi : dY) (bits : Int) : exF Γ_span_out K Tryz.f48 (.pair tY (.pair tY tE)) (.pair tS tE) [] (lo, hi, bits, ()) = span_out lo hi bits := by kernel_rfl
theorem env_span_out : EnvOK Tryz.prog G Γ_span_out := ⟨T_ok, ((phi_cons fn_dyad_Round phi_nil) : PhiOK Tryz.prog G Γ_span_out.Φ), fun _ _ h => (by cases h), mixed⟩
theorem fn_span_out : FnOK Tryz.prog G 48 en_span_out := FnOK.of env_span_out Tryz.func48 (by kernel_rfl) (by kernel_rfl) (of_decide_eq_true (by kernel_rfl)) (fun x y h => ⟨0, (span_out_eq 0 x.1 x.2.1 x.2.2.1).trans h⟩)

noncomputable def Γ_span_Mul : Env := { T := T, Φ := fun i => bif Nat.beq i 45 then some en_dyad_Mul else bif Nat.beq i 46 then some en_dyad_Min else bif Nat.beq i 47 then some en_dyad_Max else bif Nat.beq i 48 then some en_span_out else none, ann := fun i => [], ord := fun i => bif Nat.beq i 9 then [0, 1, 2, 3] else bif Nat.beq i 10 then [0, 1, 3, 4, 2, 5, 6, 7] else [] }
theorem span_Mul_eq (K : Nat) (a : dS) (b : dS) (bits : Int) : exF Γ_span_Mul K Tryz.f18 (.pair tS (.pair tS tE)) (.pair tS tE) [] (a, b, bits, ()) = span_Mul a b bits := by kernel_rfl
theorem env_span_Mul : EnvOK Tryz.prog G Γ_span_Mul := ⟨T_ok, ((phi_cons fn_dyad_Mul (phi_cons fn_dyad_Min (phi_cons fn_dyad_Max (phi_cons fn_span_out phi_nil)))) : PhiOK Tryz.prog G Γ_span_Mul.Φ), fun _ _ h => (by cases h), mixed⟩
theorem fn_span_Mul : FnOK Tryz.prog G 18 en_span_Mul := FnOK.of env_span_Mul Tryz.func18 (by kernel_rfl) (by kernel_rfl) (of_decide_eq_true (by kernel_rfl)) (fun x y h => ⟨0, (span_Mul_eq 0 x.1 x.2.1 x.2.2.1).trans h⟩)

noncomputable def Γ_dyad_Add : Env := { T := T, Φ := fun i => bif Nat.beq i 75 then some en_whole_Add else bif Nat.beq i 76 then some en_dyad_Make else bif Nat.beq i 106 then some en_dyad_level else none, ann := fun i => [] }
theorem dyad_Add_eq (K : Nat) (a : dY) (b : dY) : exF Γ_dyad_Add K Tryz.f122 tS (.pair tY tE) [] (a, b, ()) = dyad_Add a b := by kernel_rfl
theorem env_dyad_Add : EnvOK Tryz.prog G Γ_dyad_Add := ⟨T_ok, ((phi_cons fn_whole_Add (phi_cons fn_dyad_Make (phi_cons fn_dyad_level phi_nil))) : PhiOK Tryz.prog G Γ_dyad_Add.Φ), fun _ _ h => (by cases h), mixed⟩
theorem fn_dyad_Add : FnOK Tryz.prog G 122 en_dyad_Add := FnOK.of env_dyad_Add Tryz.func122 (by kernel_rfl) (by kernel_rfl) (of_decide_eq_true (by kernel_rfl)) (fun x y h => ⟨0, (dyad_Add_eq 0 x.1 x.2.1).trans h⟩)

noncomputable def Γ_span_Add : Env := { T := T, Φ := fun i => bif Nat.beq i 48 then some en_span_out else bif Nat.beq i 122 then some en_dyad_Add else none, ann := fun i => [] }
theorem span_Add_eq (K : Nat) (a : dS) (b : dS) (bits : Int) : exF Γ_span_Add K Tryz.f109 (.pair tS (.pair tS tE)) (.pair tS tE) [] (a, b, bits, ()) = span_Add a b bits := by kernel_rfl
theorem env_span_Add : EnvOK Tryz.prog G Γ_span_Add := ⟨T_ok, ((phi_cons fn_span_out (phi_cons fn_dyad_Add phi_nil)) : PhiOK Tryz.prog G Γ_span_Add.Φ), fun _ _ h => (by cases h), mixed⟩
theorem fn_span_Add : FnOK Tryz.prog G 109 en_span_Add := FnOK.of env_span_Add Tryz.func109 (by kernel_rfl) (by kernel_rfl) (of_decide_eq_true (by kernel_rfl)) (fun x y h => ⟨0, (span_Add_eq 0 x.1 x.2.1 x.2.2.1).trans h⟩)

noncomputable def Γ_vec_Inner : Env := { T := T, Φ := fun i => bif Nat.beq i 18 then some en_span_Mul else bif Nat.beq i 109 then some en_span_Add else none, ann := fun i => bif Nat.beq i 5 then [(0, .c (.data tS)), (1, .c (.data tS)), (2, .c .sc), (6, .var 100 [.sc, .data (.int .u32), .sc, .sc, .data (.int .u32), .sc]), (8, .var 101 [.sc, .data (.int .u32), .sc, .sc, .data (.int .u32), .sc]), (19, .c .sc), (20, .c .sc)] else [], ord := fun i => bif Nat.beq i 7 then [0, 1, 2, 3, 4, 5, 6, 7, 8, 9, 10, 11, 12, 13, 14, 15] else [] }
noncomputable def vec_Inner_c : Code := (Tryz.f90.body).getD .skip
noncomputable def vec_Inner_fin := finish Γ_vec_Inner Tryz.f90.results.toList (.pair tS tE) []
noncomputable def vec_Inner_k0 (κ : Kt (.pair tS tE)) (a b : List dS) (c : Int) (d : Bool) (e : List Int) (f : Int) (g : Bool) (h : List Int) (i : Int) (j : Bool) (k : List Int) (l : Int) (o : Bool) (p : List Int) (q r s : Int) := κ { t := (upd (upd (upd (upd (upd (upd (upd (fun _ => .undef) 0 (.one (.sl tS a))) 1 (.one (.sl tS b))) 2 (.one (.int .i64 c))) 6 (.one (.vptr 100 0))) 8 (.one (.vptr 101 0))) 19 (.one (.int .i64 r))) 20 (.one (.int .i64 s))), m := (upd (upd (upd (fun _ => .free) 0 .held) 100 (.var true [.bool d, .sl (.int .u32) e, .int .i64 f, .bool g, .sl (.int .u32) h, .int .i64 i])) 101 (.var true [.bool j, .sl (.int .u32) k, .int .i64 l, .bool o, .sl (.int .u32) p, .int .i64 q])), nx := 1000000, n := 53 }
noncomputable def vec_Inner_A0 (K : Nat) := loopAt Γ_vec_Inner K [.r, .r, .r, .l, .r, .b] vec_Inner_c [] vec_Inner_fin (fun _ _ => none) vec_Inner_fin
theorem vec_Inner_loop0 (K : Nat) : ∀ n, vec_Inner_k0 (vec_Inner_A0 K n) = vec_Inner_l0 K n
  | 0 => by kernel_rfl
  | n + 1 => Eq.trans (b := vec_Inner_s0 (vec_Inner_k0 (vec_Inner_A0 K n))) (by kernel_rfl) (by rw [vec_Inner_loop0 K n]; rfl)
theorem vec_Inner_eq (K : Nat) (a : List dS) (b : List dS) (bits : Int) : exF Γ_vec_Inner K Tryz.f90 (.pair lS (.pair lS tE)) (.pair tS tE) [] (a, b, bits, ()) = vec_Inner K a b bits :=
  Eq.trans (b := vec_Inner_b (vec_Inner_k0 (vec_Inner_A0 K K)) a b bits) (by kernel_rfl) (by rw [vec_Inner_loop0 K K]; rfl)
theorem env_vec_Inner : EnvOK Tryz.prog G Γ_vec_Inner := ⟨T_ok, ((phi_cons fn_span_Mul (phi_cons fn_span_Add phi_nil)) : PhiOK Tryz.prog G Γ_vec_Inner.Φ), fun _ _ h => (by cases h), mixed⟩
theorem fn_vec_Inner : FnOK Tryz.prog G 90 en_vec_Inner := FnOK.of env_vec_Inner Tryz.func90 (by kernel_rfl) (by kernel_rfl) (of_decide_eq_true (by kernel_rfl)) (fun x y h => ⟨100, (vec_Inner_eq 100 x.1 x.2.1 x.2.2.1).trans h⟩)

noncomputable def Γ_mat_Times : Env := { T := T, Φ := fun i => bif Nat.beq i 88 then some en_mat_turn_api_Span else bif Nat.beq i 89 then some en_mat_grid_api_Span_shape else bif Nat.beq i 90 then some en_vec_Inner else none, deep := true, ann := fun i => bif Nat.beq i 9 then [(2, .c .sc), (8, .c (.data lS)), (13, .c (.deep 100 56 41 tS)), (45, .c (.data lS)), (46, .c .sc), (47, .c .sc)] else bif Nat.beq i 12 then [(2, .c .sc), (8, .c (.data lS)), (13, .c (.deep 100 56 41 tS)), (14, .c .sc), (15, .c (.data tS)), (45, .c (.data lS)), (46, .c .sc), (47, .c .sc), (52, .c (.data lS)), (53, .c .sc), (54, .c .sc)] else [], ord := fun i => bif Nat.beq i 17 then [0, 1, 2, 3, 4, 5, 6, 7, 8, 9, 10] else [] }
noncomputable def mat_Times_c : Code := (Tryz.f60.body).getD .skip
noncomputable def mat_Times_fin := finish Γ_mat_Times Tryz.f60.results.toList (.pair (.sl lS) tE) []
noncomputable def mat_Times_k0 (κ : Kt (.pair (.sl lS) tE)) (a : Int) (b c d : List (List dS)) (e f : Int) := κ { t := (upd (upd (upd (upd (upd (upd (fun _ => .undef) 2 (.one (.int .i64 a))) 8 (.one (.sl lS b))) 13 (.one (.own 100))) 45 (.one (.sl lS d))) 46 (.one (.int .i64 e))) 47 (.one (.int .i64 f))), m := (upd (upd (fun _ => .free) 0 .held) 100 (.deep true 56 41 tS c none 0)), nx := 1000000, n := 81 }
noncomputable def mat_Times_k1 (κ : Kt (.pair (.sl lS) tE)) (a : Int) (b c : List (List dS)) (d : Int) (e : List dS) (f : List (List dS)) (g h : Int) (i : List (List dS)) (j k : Int) := κ { t := (upd (upd (upd (upd (upd (upd (upd (upd (upd (upd (upd (fun _ => .undef) 2 (.one (.int .i64 a))) 8 (.one (.sl lS b))) 13 (.one (.own 100))) 14 (.one (.int .i64 d))) 15 (.one (.sl tS e))) 45 (.one (.sl lS f))) 46 (.one (.int .i64 g))) 47 (.one (.int .i64 h))) 52 (.one (.sl lS i))) 53 (.one (.int .i64 j))) 54 (.one (.int .i64 k))), m := (upd (upd (fun _ => .free) 0 .held) 100 (.deep true 56 41 tS c none 0)), nx := 1000000, n := 81 }
noncomputable def mat_Times_A1 (K : Nat) (κ0 : Kt (.pair (.sl lS) tE)) := loopAt Γ_mat_Times K [.r, .r, .r, .r, .r, .l, .r, .b, .c, .r, .r, .l, .b, .r, .r, .b] mat_Times_c [fun st => mask [(2, .c .sc), (8, .c (.data lS)), (13, .c (.deep 100 56 41 tS)), (45, .c (.data lS)), (46, .c .sc), (47, .c .sc)] 1000000 st (κ0)] mat_Times_fin (fun _ _ => none) mat_Times_fin
theorem mat_Times_loop1 (K : Nat) (κ0 : Kt (.pair (.sl lS) tE)) : ∀ n, mat_Times_k1 (mat_Times_A1 K κ0 n) = mat_Times_l1 K (mat_Times_k0 κ0) n
  | 0 => by kernel_rfl
  | n + 1 => Eq.trans (b := mat_Times_s1 (mat_Times_k0 κ0) (mat_Times_k1 (mat_Times_A1 K κ0 n))) (by kernel_rfl) (by rw [mat_Times_loop1 K κ0 n]; rfl)
noncomputable def mat_Times_A0 (K : Nat) := loopAt Γ_mat_Times K [.r, .r, .r, .r, .r, .l, .r, .b] mat_Times_c [] mat_Times_fin (fun _ _ => none) mat_Times_fin
theorem mat_Times_loop0 (K : Nat) : ∀ n, mat_Times_k0 (mat_Times_A0 K n) = mat_Times_l0 K n
  | 0 => by kernel_rfl
  | n + 1 => Eq.trans (b := mat_Times_s0 (mat_Times_k1 (mat_Times_A1 K (mat_Times_A0 K n) K)) (mat_Times_k0 (mat_Times_A0 K n))) (by kernel_rfl) (by rw [mat_Times_loop1 K (mat_Times_A0 K n) K, mat_Times_loop0 K n]; rfl)
theorem mat_Times_eq (K : Nat) (a : List (List dS)) (b : List (List dS)) (bits : Int) : exF Γ_mat_Times K Tryz.f60 (.pair (.sl lS) (.pair (.sl lS) tE)) (.pair (.sl lS) tE) [] (a, b, bits, ()) = mat_Times K a b bits :=
  Eq.trans (b := mat_Times_b (mat_Times_k0 (mat_Times_A0 K K)) a b bits) (by kernel_rfl) (by rw [mat_Times_loop0 K K]; rfl)
theorem env_mat_Times : EnvOK Tryz.prog G Γ_mat_Times := ⟨T_ok, ((phi_cons fn_mat_turn_api_Span (phi_cons fn_mat_grid_api_Span_shape (phi_cons fn_vec_Inner phi_nil))) : PhiOK Tryz.prog G Γ_mat_Times.Φ), fun _ _ h => (by cases h), mixed⟩
theorem fn_mat_Times : FnOK Tryz.prog G 60 en_mat_Times := FnOK.of env_mat_Times Tryz.func60 (by kernel_rfl) (by kernel_rfl) (of_decide_eq_true (by kernel_rfl)) (fun x y h => ⟨100, (mat_Times_eq 100 x.1 x.2.1 x.2.2.1).trans h⟩)

noncomputable def Γ_vec_Plus : Env := { T := T, Φ := fun i => bif Nat.beq i 109 then some en_span_Add else none, ann := fun i => bif Nat.beq i 5 then [(0, .c (.data tS)), (1, .c (.data tS)), (2, .c .sc), (8, .c (.own 100 41 tS)), (21, .c .sc), (22, .c .sc)] else [], ord := fun i => bif Nat.beq i 7 then [0, 1, 2, 3, 4, 5, 6, 7, 8, 9, 10, 11, 12, 13, 14, 15] else [] }
noncomputable def vec_Plus_c : Code := (Tryz.f91.body).getD .skip
noncomputable def vec_Plus_fin := finish Γ_vec_Plus Tryz.f91.results.toList (.pair lS tE) []
noncomputable def vec_Plus_k0 (κ : Kt (.pair lS tE)) (a b : List dS) (c : Int) (d : List dS) (e f : Int) := κ { t := (upd (upd (upd (upd (upd (upd (fun _ => .undef) 0 (.one (.sl tS a))) 1 (.one (.sl tS b))) 2 (.one (.int .i64 c))) 8 (.one (.own 100))) 21 (.one (.int .i64 e))) 22 (.one (.int .i64 f))), m := (upd (upd (fun _ => .free) 0 .held) 100 (.row true 41 tS d)), nx := 1000000, n := 47 }
noncomputable def vec_Plus_A0 (K : Nat) := loopAt Γ_vec_Plus K [.r, .r, .r, .l, .r, .b] vec_Plus_c [] vec_Plus_fin (fun _ _ => none) vec_Plus_fin
theorem vec_Plus_loop0 (K : Nat) : ∀ n, vec_Plus_k0 (vec_Plus_A0 K n) = vec_Plus_l0 K n
  | 0 => by kernel_rfl
  | n + 1 => Eq.trans (b := vec_Plus_s0 (vec_Plus_k0 (vec_Plus_A0 K n))) (by kernel_rfl) (by rw [vec_Plus_loop0 K n]; rfl)
theorem vec_Plus_eq (K : Nat) (a : List dS) (b : List dS) (bits : Int) : exF Γ_vec_Plus K Tryz.f91 (.pair lS (.pair lS tE)) (.pair lS tE) [] (a, b, bits, ()) = vec_Plus K a b bits :=
  Eq.trans (b := vec_Plus_b (vec_Plus_k0 (vec_Plus_A0 K K)) a b bits) (by kernel_rfl) (by rw [vec_Plus_loop0 K K]; rfl)
theorem env_vec_Plus : EnvOK Tryz.prog G Γ_vec_Plus := ⟨T_ok, ((phi_cons fn_span_Add phi_nil) : PhiOK Tryz.prog G Γ_vec_Plus.Φ), fun _ _ h => (by cases h), mixed⟩
theorem fn_vec_Plus : FnOK Tryz.prog G 91 en_vec_Plus := FnOK.of env_vec_Plus Tryz.func91 (by kernel_rfl) (by kernel_rfl) (of_decide_eq_true (by kernel_rfl)) (fun x y h => ⟨100, (vec_Plus_eq 100 x.1 x.2.1 x.2.2.1).trans h⟩)

noncomputable def Γ_mat_Plus : Env := { T := T, Φ := fun i => bif Nat.beq i 91 then some en_vec_Plus else none, ann := fun i => bif Nat.beq i 5 then [(0, .c (.data lS)), (1, .c (.data lS)), (2, .c .sc), (8, .c (.own 100 56 lS)), (21, .c .sc), (22, .c .sc)] else [], ord := fun i => bif Nat.beq i 7 then [0, 1, 2, 3, 4, 5, 6, 7, 8, 9, 10, 11, 12, 13, 14] else [] }
noncomputable def mat_Plus_c : Code := (Tryz.f61.body).getD .skip
noncomputable def mat_Plus_fin := finish Γ_mat_Plus Tryz.f61.results.toList (.pair (.sl lS) tE) []
noncomputable def mat_Plus_k0 (κ : Kt (.pair (.sl lS) tE)) (a b : List (List dS)) (c : Int) (d : List (List dS)) (e f : Int) := κ { t := (upd (upd (upd (upd (upd (upd (fun _ => .undef) 0 (.one (.sl lS a))) 1 (.one (.sl lS b))) 2 (.one (.int .i64 c))) 8 (.one (.own 100))) 21 (.one (.int .i64 e))) 22 (.one (.int .i64 f))), m := (upd (upd (fun _ => .free) 0 .held) 100 (.row true 56 lS d)), nx := 1000000, n := 47 }
noncomputable def mat_Plus_A0 (K : Nat) := loopAt Γ_mat_Plus K [.r, .r, .r, .l, .r, .b] mat_Plus_c [] mat_Plus_fin (fun _ _ => none) mat_Plus_fin
theorem mat_Plus_loop0 (K : Nat) : ∀ n, mat_Plus_k0 (mat_Plus_A0 K n) = mat_Plus_l0 K n
  | 0 => by kernel_rfl
  | n + 1 => Eq.trans (b := mat_Plus_s0 (mat_Plus_k0 (mat_Plus_A0 K n))) (by kernel_rfl) (by rw [mat_Plus_loop0 K n]; rfl)
theorem mat_Plus_eq (K : Nat) (a : List (List dS)) (b : List (List dS)) (bits : Int) : exF Γ_mat_Plus K Tryz.f61 (.pair (.sl lS) (.pair (.sl lS) tE)) (.pair (.sl lS) tE) [] (a, b, bits, ()) = mat_Plus K a b bits :=
  Eq.trans (b := mat_Plus_b (mat_Plus_k0 (mat_Plus_A0 K K)) a b bits) (by kernel_rfl) (by rw [mat_Plus_loop0 K K]; rfl)
theorem env_mat_Plus : EnvOK Tryz.prog G Γ_mat_Plus := ⟨T_ok, ((phi_cons fn_vec_Plus phi_nil) : PhiOK Tryz.prog G Γ_mat_Plus.Φ), fun _ _ h => (by cases h), mixed⟩
theorem fn_mat_Plus : FnOK Tryz.prog G 61 en_mat_Plus := FnOK.of env_mat_Plus Tryz.func61 (by kernel_rfl) (by kernel_rfl) (of_decide_eq_true (by kernel_rfl)) (fun x y h => ⟨100, (mat_Plus_eq 100 x.1 x.2.1 x.2.2.1).trans h⟩)

noncomputable def Γ_vec_Times : Env := { T := T, Φ := fun i => bif Nat.beq i 18 then some en_span_Mul else none, ann := fun i => bif Nat.beq i 3 then [(2, .c .sc), (4, .var 100 [.sc, .data (.int .u32), .sc, .sc, .data (.int .u32), .sc]), (8, .c (.own 101 41 tS)), (16, .c (.data tS)), (17, .c .sc), (18, .c .sc)] else [] }
noncomputable def vec_Times_c : Code := (Tryz.f108.body).getD .skip
noncomputable def vec_Times_fin := finish Γ_vec_Times Tryz.f108.results.toList (.pair lS tE) []
noncomputable def vec_Times_k0 (κ : Kt (.pair lS tE)) (a : Int) (b : Bool) (c : List Int) (d : Int) (e : Bool) (f : List Int) (g : Int) (h i : List dS) (j k : Int) := κ { t := (upd (upd (upd (upd (upd (upd (fun _ => .undef) 2 (.one (.int .i64 a))) 4 (.one (.vptr 100 0))) 8 (.one (.own 101))) 16 (.one (.sl tS i))) 17 (.one (.int .i64 j))) 18 (.one (.int .i64 k))), m := (upd (upd (upd (fun _ => .free) 0 .held) 100 (.var true [.bool b, .sl (.int .u32) c, .int .i64 d, .bool e, .sl (.int .u32) f, .int .i64 g])) 101 (.row true 41 tS h)), nx := 1000000, n := 39 }
noncomputable def vec_Times_A0 (K : Nat) := loopAt Γ_vec_Times K [.r, .r, .l, .r, .b] vec_Times_c [] vec_Times_fin (fun _ _ => none) vec_Times_fin
theorem vec_Times_loop0 (K : Nat) : ∀ n, vec_Times_k0 (vec_Times_A0 K n) = vec_Times_l0 K n
  | 0 => by kernel_rfl
  | n + 1 => Eq.trans (b := vec_Times_s0 (vec_Times_k0 (vec_Times_A0 K n))) (by kernel_rfl) (by rw [vec_Times_loop0 K n]; rfl)
theorem vec_Times_eq (K : Nat) (a : List dS) (by_ : dS) (bits : Int) : exF Γ_vec_Times K Tryz.f108 (.pair lS (.pair tS tE)) (.pair lS tE) [] (a, by_, bits, ()) = vec_Times K a by_ bits :=
  Eq.trans (b := vec_Times_b (vec_Times_k0 (vec_Times_A0 K K)) a by_ bits) (by kernel_rfl) (by rw [vec_Times_loop0 K K]; rfl)
theorem env_vec_Times : EnvOK Tryz.prog G Γ_vec_Times := ⟨T_ok, ((phi_cons fn_span_Mul phi_nil) : PhiOK Tryz.prog G Γ_vec_Times.Φ), fun _ _ h => (by cases h), mixed⟩
theorem fn_vec_Times : FnOK Tryz.prog G 108 en_vec_Times := FnOK.of env_vec_Times Tryz.func108 (by kernel_rfl) (by kernel_rfl) (of_decide_eq_true (by kernel_rfl)) (fun x y h => ⟨100, (vec_Times_eq 100 x.1 x.2.1 x.2.2.1).trans h⟩)

noncomputable def Γ_series_Scaled : Env := { T := T, Φ := fun i => bif Nat.beq i 108 then some en_vec_Times else none, ann := fun i => bif Nat.beq i 3 then [(2, .c .sc), (4, .var 100 [.sc, .data (.int .u32), .sc, .sc, .data (.int .u32), .sc]), (8, .c (.own 101 56 lS)), (16, .c (.data lS)), (17, .c .sc), (18, .c .sc)] else [] }
noncomputable def series_Scaled_c : Code := (Tryz.f87.body).getD .skip
noncomputable def series_Scaled_fin := finish Γ_series_Scaled Tryz.f87.results.toList (.pair (.sl lS) tE) []
noncomputable def series_Scaled_k0 (κ : Kt (.pair (.sl lS) tE)) (a : Int) (b : Bool) (c : List Int) (d : Int) (e : Bool) (f : List Int) (g : Int) (h i : List (List dS)) (j k : Int) := κ { t := (upd (upd (upd (upd (upd (upd (fun _ => .undef) 2 (.one (.int .i64 a))) 4 (.one (.vptr 100 0))) 8 (.one (.own 101))) 16 (.one (.sl lS i))) 17 (.one (.int .i64 j))) 18 (.one (.int .i64 k))), m := (upd (upd (upd (fun _ => .free) 0 .held) 100 (.var true [.bool b, .sl (.int .u32) c, .int .i64 d, .bool e, .sl (.int .u32) f, .int .i64 g])) 101 (.row true 56 lS h)), nx := 1000000, n := 39 }
noncomputable def series_Scaled_A0 (K : Nat) := loopAt Γ_series_Scaled K [.r, .r, .l, .r, .b] series_Scaled_c [] series_Scaled_fin (fun _ _ => none) series_Scaled_fin
theorem series_Scaled_loop0 (K : Nat) : ∀ n, series_Scaled_k0 (series_Scaled_A0 K n) = series_Scaled_l0 K n
  | 0 => by kernel_rfl
  | n + 1 => Eq.trans (b := series_Scaled_s0 (series_Scaled_k0 (series_Scaled_A0 K n))) (by kernel_rfl) (by rw [series_Scaled_loop0 K n]; rfl)
theorem series_Scaled_eq (K : Nat) (a : List (List dS)) (by_ : dS) (bits : Int) : exF Γ_series_Scaled K Tryz.f87 (.pair (.sl lS) (.pair tS tE)) (.pair (.sl lS) tE) [] (a, by_, bits, ()) = series_Scaled K a by_ bits :=
  Eq.trans (b := series_Scaled_b (series_Scaled_k0 (series_Scaled_A0 K K)) a by_ bits) (by kernel_rfl) (by rw [series_Scaled_loop0 K K]; rfl)
theorem env_series_Scaled : EnvOK Tryz.prog G Γ_series_Scaled := ⟨T_ok, ((phi_cons fn_vec_Times phi_nil) : PhiOK Tryz.prog G Γ_series_Scaled.Φ), fun _ _ h => (by cases h), mixed⟩
theorem fn_series_Scaled : FnOK Tryz.prog G 87 en_series_Scaled := FnOK.of env_series_Scaled Tryz.func87 (by kernel_rfl) (by kernel_rfl) (of_decide_eq_true (by kernel_rfl)) (fun x y h => ⟨100, (series_Scaled_eq 100 x.1 x.2.1 x.2.2.1).trans h⟩)

noncomputable def Γ_series_divided : Env := { T := T, Φ := fun i => bif Nat.beq i 14 then some en_ratio_Of else bif Nat.beq i 15 then some en_span_Near else bif Nat.beq i 87 then some en_series_Scaled else none, ann := fun i => [] }
theorem series_divided_eq (K : Nat) (a : List (List dS)) (by_ : Int) (bits : Int) : exF Γ_series_divided K Tryz.f85 (.pair (.sl lS) (.pair (.int .i64) tE)) (.pair (.sl lS) tE) [] (a, by_, bits, ()) = series_divided a by_ bits := by kernel_rfl
theorem env_series_divided : EnvOK Tryz.prog G Γ_series_divided := ⟨T_ok, ((phi_cons fn_ratio_Of (phi_cons fn_span_Near (phi_cons fn_series_Scaled phi_nil))) : PhiOK Tryz.prog G Γ_series_divided.Φ), fun _ _ h => (by cases h), mixed⟩
theorem fn_series_divided : FnOK Tryz.prog G 85 en_series_divided := FnOK.of env_series_divided Tryz.func85 (by kernel_rfl) (by kernel_rfl) (of_decide_eq_true (by kernel_rfl)) (fun x y h => ⟨0, (series_divided_eq 0 x.1 x.2.1 x.2.2.1).trans h⟩)

noncomputable def Γ_dyad_Abs : Env := { T := T, Φ := fun i => bif Nat.beq i 82 then some en_whole_Abs else none, ann := fun i => [], ord := fun i => bif Nat.beq i 1 then [0, 1, 3, 4, 2, 5, 6] else [] }
theorem dyad_Abs_eq (K : Nat) (a : dY) : exF Γ_dyad_Abs K Tryz.f120 (.pair tY .unit) (.pair tY .unit) [] (a, ()) = dyad_Abs a := by kernel_rfl
theorem env_dyad_Abs : EnvOK Tryz.prog G Γ_dyad_Abs := ⟨T_ok, ((phi_cons fn_whole_Abs phi_nil) : PhiOK Tryz.prog G Γ_dyad_Abs.Φ), fun _ _ h => (by cases h), mixed⟩
theorem fn_dyad_Abs : FnOK Tryz.prog G 120 en_dyad_Abs := FnOK.of env_dyad_Abs Tryz.func120 (by kernel_rfl) (by kernel_rfl) (of_decide_eq_true (by kernel_rfl)) (fun x y h => ⟨0, (dyad_Abs_eq 0 x.1).trans h⟩)

noncomputable def Γ_dyad_Neg : Env := { T := T, Φ := fun i => bif Nat.beq i 103 then some en_whole_Neg else none, ann := fun i => [], ord := fun i => bif Nat.beq i 1 then [0, 1, 3, 4, 2, 5, 6] else [] }
theorem dyad_Neg_eq (K : Nat) (a : dY) : exF Γ_dyad_Neg K Tryz.f121 (.pair tY .unit) (.pair tY .unit) [] (a, ()) = dyad_Neg a := by kernel_rfl
theorem env_dyad_Neg : EnvOK Tryz.prog G Γ_dyad_Neg := ⟨T_ok, ((phi_cons fn_whole_Neg phi_nil) : PhiOK Tryz.prog G Γ_dyad_Neg.Φ), fun _ _ h => (by cases h), mixed⟩
theorem fn_dyad_Neg : FnOK Tryz.prog G 121 en_dyad_Neg := FnOK.of env_dyad_Neg Tryz.func121 (by kernel_rfl) (by kernel_rfl) (of_decide_eq_true (by kernel_rfl)) (fun x y h => ⟨0, (dyad_Neg_eq 0 x.1).trans h⟩)

noncomputable def Γ_span_Even : Env := { T := T, Φ := fun i => bif Nat.beq i 120 then some en_dyad_Abs else bif Nat.beq i 121 then some en_dyad_Neg else none, ann := fun i => [], ord := fun i => bif Nat.beq i 2 then [0, 2, 1, 3, 4] else [] }
theorem span_Even_eq (K : Nat) (a : dY) : exF Γ_span_Even K Tryz.f107 (.pair tY .unit) (.pair tS .unit) [] (a, ()) = span_Even a := by kernel_rfl
theorem env_span_Even : EnvOK Tryz.prog G Γ_span_Even := ⟨T_ok, ((phi_cons fn_dyad_Abs (phi_cons fn_dyad_Neg phi_nil)) : PhiOK Tryz.prog G Γ_span_Even.Φ), fun _ _ h => (by cases h), mixed⟩
theorem fn_span_Even : FnOK Tryz.prog G 107 en_span_Even := FnOK.of env_span_Even Tryz.func107 (by kernel_rfl) (by kernel_rfl) (of_decide_eq_true (by kernel_rfl)) (fun x y h => ⟨0, (span_Even_eq 0 x.1).trans h⟩)

noncomputable def Γ_mat_Even : Env := { T := T, Φ := fun i => bif Nat.beq i 107 then some en_span_Even else none, deep := true, ann := fun i => bif Nat.beq i 3 then [(3, .var 100 [.sc, .data (.int .u32), .sc]), (5, .c (.deep 101 56 41 tS)), (12, .c .sc), (13, .c .sc)] else bif Nat.beq i 6 then [(3, .var 100 [.sc, .data (.int .u32), .sc]), (5, .c (.deep 101 56 41 tS)), (6, .c .sc), (12, .c .sc), (13, .c .sc), (17, .c .sc), (18, .c .sc)] else [], ord := fun i => bif Nat.beq i 7 then [0, 1, 2, 3, 4, 5, 6, 7, 8, 9, 10, 11] else [] }
noncomputable def mat_Even_c : Code := (Tryz.f86.body).getD .skip
noncomputable def mat_Even_fin := finish Γ_mat_Even Tryz.f86.results.toList (.pair (.sl lS) .unit) []
noncomputable def mat_Even_k0 (κ : Kt (.pair (.sl lS) .unit)) (a : Bool) (b : List Int) (c : Int) (d : List (List dS)) (e f : Int) := κ { t := (upd (upd (upd (upd (fun _ => .undef) 3 (.one (.vptr 100 0))) 5 (.one (.own 101))) 12 (.one (.int .i64 e))) 13 (.one (.int .i64 f))), m := (upd (upd (upd (fun _ => .free) 0 .held) 100 (.var true [.bool a, .sl (.int .u32) b, .int .i64 c])) 101 (.deep true 56 41 tS d none 0)), nx := 1000000, n := 34 }
noncomputable def mat_Even_k1 (κ : Kt (.pair (.sl lS) .unit)) (a : Bool) (b : List Int) (c : Int) (d : List (List dS)) (e f g h i : Int) := κ { t := (upd (upd (upd (upd (upd (upd (upd (fun _ => .undef) 3 (.one (.vptr 100 0))) 5 (.one (.own 101))) 6 (.one (.int .i64 e))) 12 (.one (.int .i64 f))) 13 (.one (.int .i64 g))) 17 (.one (.int .i64 h))) 18 (.one (.int .i64 i))), m := (upd (upd (upd (fun _ => .free) 0 .held) 100 (.var true [.bool a, .sl (.int .u32) b, .int .i64 c])) 101 (.deep true 56 41 tS d none 0)), nx := 1000000, n := 34 }
noncomputable def mat_Even_A1 (K : Nat) (κ0 : Kt (.pair (.sl lS) .unit)) := loopAt Γ_mat_Even K [.r, .r, .l, .r, .b, .c, .r, .r, .l, .b, .r, .r, .b] mat_Even_c [fun st => mask [(3, .var 100 [.sc, .data (.int .u32), .sc]), (5, .c (.deep 101 56 41 tS)), (12, .c .sc), (13, .c .sc)] 1000000 st (κ0)] mat_Even_fin (fun _ _ => none) mat_Even_fin
theorem mat_Even_loop1 (K : Nat) (κ0 : Kt (.pair (.sl lS) .unit)) : ∀ n, mat_Even_k1 (mat_Even_A1 K κ0 n) = mat_Even_l1 K (mat_Even_k0 κ0) n
  | 0 => by kernel_rfl
  | n + 1 => Eq.trans (b := mat_Even_s1 (mat_Even_k0 κ0) (mat_Even_k1 (mat_Even_A1 K κ0 n))) (by kernel_rfl) (by rw [mat_Even_loop1 K κ0 n]; rfl)
noncomputable def mat_Even_A0 (K : Nat) := loopAt Γ_mat_Even K [.r, .r, .l, .r, .b] mat_Even_c [] mat_Even_fin (fun _ _ => none) mat_Even_fin
theorem mat_Even_loop0 (K : Nat) : ∀ n, mat_Even_k0 (mat_Even_A0 K n) = mat_Even_l0 K n
  | 0 => by kernel_rfl
  | n + 1 => Eq.trans (b := mat_Even_s0 (mat_Even_k1 (mat_Even_A1 K (mat_Even_A0 K n) K)) (mat_Even_k0 (mat_Even_A0 K n))) (by kernel_rfl) (by rw [mat_Even_loop1 K (mat_Even_A0 K n) K, mat_Even_loop0 K n]; rfl)
theorem mat_Even_eq (K : Nat) (n : Int) (size : dY) : exF Γ_mat_Even K Tryz.f86 (.pair (.int .i64) (.pair tY .unit)) (.pair (.sl lS) .unit) [] (n, size, ()) = mat_Even K n size :=
  Eq.trans (b := mat_Even_b (mat_Even_k0 (mat_Even_A0 K K)) n size) (by kernel_rfl) (by rw [mat_Even_loop0 K K]; rfl)
theorem env_mat_Even : EnvOK Tryz.prog G Γ_mat_Even := ⟨T_ok, ((phi_cons fn_span_Even phi_nil) : PhiOK Tryz.prog G Γ_mat_Even.Φ), fun _ _ h => (by cases h), mixed⟩
theorem fn_mat_Even : FnOK Tryz.prog G 86 en_mat_Even := FnOK.of env_mat_Even Tryz.func86 (by kernel_rfl) (by kernel_rfl) (of_decide_eq_true (by kernel_rfl)) (fun x y h => ⟨100, (mat_Even_eq 100 x.1 x.2.1).trans h⟩)

noncomputable def Γ_series_sums : Env := { T := T, Φ := fun i => bif Nat.beq i 5 then some en_mat_One else bif Nat.beq i 15 then some en_span_Near else bif Nat.beq i 57 then some en_mat_Near else bif Nat.beq i 60 then some en_mat_Times else bif Nat.beq i 61 then some en_mat_Plus else bif Nat.beq i 85 then some en_series_divided else bif Nat.beq i 86 then some en_mat_Even else bif Nat.beq i 87 then some en_series_Scaled else none, ann := fun i => bif Nat.beq i 6 then [(0, .c (.data lS)), (2, .c .sc), (4, .c .sc), (6, .var 100 [.sc, .data (.int .u32), .data (.int .u32)]), (8, .var 101 [.sc, .data (.int .u32), .sc]), (10, .var 102 [.data lS, .data lS]), (12, .c (.data lS)), (14, .var 103 [.data lS, .data lS]), (15, .c .sc)] else [] }
noncomputable def series_sums_c : Code := (Tryz.f59.body).getD .skip
noncomputable def series_sums_fin := finish Γ_series_sums Tryz.f59.results.toList (.pair (.pair (.sl lS) (.pair (.sl lS) .unit)) tE) []
noncomputable def series_sums_k0 (κ : Kt (.pair (.pair (.sl lS) (.pair (.sl lS) .unit)) tE)) (a : List (List dS)) (b c : Int) (d : Bool) (e f : List Int) (g : Bool) (h : List Int) (i : Int) (j k l o p : List (List dS)) (q : Int) := κ { t := (upd (upd (upd (upd (upd (upd (upd (upd (upd (fun _ => .undef) 0 (.one (.sl lS a))) 2 (.one (.int .i64 b))) 4 (.one (.int .i64 c))) 6 (.one (.vptr 100 0))) 8 (.one (.vptr 101 0))) 10 (.one (.vptr 102 0))) 12 (.one (.sl lS l))) 14 (.one (.vptr 103 0))) 15 (.one (.int .i64 q))), m := (upd (upd (upd (upd (upd (fun _ => .free) 0 .held) 100 (.var true [.bool d, .sl (.int .u32) e, .sl (.int .u32) f])) 101 (.var true [.bool g, .sl (.int .u32) h, .int .i64 i])) 102 (.var true [.sl lS j, .sl lS k])) 103 (.var true [.sl lS o, .sl lS p])), nx := 1000000, n := 151 }
noncomputable def series_sums_A0 (K : Nat) := loopAt Γ_series_sums K [.r, .r, .r, .r, .l, .r, .b] series_sums_c [] series_sums_fin (fun _ _ => none) series_sums_fin
theorem series_sums_loop0 (K : Nat) : ∀ n, series_sums_k0 (series_sums_A0 K n) = series_sums_l0 K n
  | 0 => by kernel_rfl
  | n + 1 => Eq.trans (b := series_sums_s0 (series_sums_k0 (series_sums_A0 K n))) (by kernel_rfl) (by rw [series_sums_loop0 K n]; rfl)
theorem series_sums_eq (K : Nat) (x : List (List dS)) (t : dR) (k : Int) (left : dY) (bits : Int) : exF Γ_series_sums K Tryz.f59 (.pair (.sl lS) (.pair tR (.pair (.int .i64) (.pair tY tE)))) (.pair (.pair (.sl lS) (.pair (.sl lS) .unit)) tE) [] (x, t, k, left, bits, ()) = series_sums K x t k left bits :=
  Eq.trans (b := series_sums_b (series_sums_k0 (series_sums_A0 K K)) x t k left bits) (by kernel_rfl) (by rw [series_sums_loop0 K K]; rfl)
theorem env_series_sums : EnvOK Tryz.prog G Γ_series_sums := ⟨T_ok, ((phi_cons fn_mat_One (phi_cons fn_span_Near (phi_cons fn_mat_Near (phi_cons fn_mat_Times (phi_cons fn_mat_Plus (phi_cons fn_series_divided (phi_cons fn_mat_Even (phi_cons fn_series_Scaled phi_nil)))))))) : PhiOK Tryz.prog G Γ_series_sums.Φ), fun _ _ h => (by cases h), mixed⟩
theorem fn_series_sums : FnOK Tryz.prog G 59 en_series_sums := FnOK.of env_series_sums Tryz.func59 (by kernel_rfl) (by kernel_rfl) (of_decide_eq_true (by kernel_rfl)) (fun x y h => ⟨100, (series_sums_eq 100 x.1 x.2.1 x.2.2.1 x.2.2.2.1 x.2.2.2.2.1).trans h⟩)

noncomputable def Γ_series_small : Env := { T := T, Φ := fun i => bif Nat.beq i 16 then some en_ratio_Mul else bif Nat.beq i 22 then some en_mat_Scale else bif Nat.beq i 28 then some en_limbs_Of else bif Nat.beq i 42 then some en_ratio_Make else bif Nat.beq i 43 then some en_whole_Of else bif Nat.beq i 55 then some en_limbs_Left else bif Nat.beq i 56 then some en_whole_Nat else bif Nat.beq i 57 then some en_mat_Near else bif Nat.beq i 58 then some en_series_Terms else bif Nat.beq i 59 then some en_series_sums else none, ann := fun i => [] }
theorem series_small_eq (K : Nat) (m : List (List dR)) (t : dR) (n : Int) (bits : Int) : exF Γ_series_small K Tryz.f25 (.pair (.sl lR) (.pair tR (.pair (.int .i64) tE))) (.pair (.pair (.sl lS) (.pair (.sl lS) .unit)) tE) [] (m, t, n, bits, ()) = series_small m t n bits := by kernel_rfl
theorem env_series_small : EnvOK Tryz.prog G Γ_series_small := ⟨T_ok, ((phi_cons fn_ratio_Mul (phi_cons fn_mat_Scale (phi_cons fn_limbs_Of (phi_cons fn_ratio_Make (phi_cons fn_whole_Of (phi_cons fn_limbs_Left (phi_cons fn_whole_Nat (phi_cons fn_mat_Near (phi_cons fn_series_Terms (phi_cons fn_series_sums phi_nil)))))))))) : PhiOK Tryz.prog G Γ_series_small.Φ), fun _ _ h => (by cases h), mixed⟩
theorem fn_series_small : FnOK Tryz.prog G 25 en_series_small := FnOK.of env_series_small Tryz.func25 (by kernel_rfl) (by kernel_rfl) (of_decide_eq_true (by kernel_rfl)) (fun x y h => ⟨0, (series_small_eq 0 x.1 x.2.1 x.2.2.1 x.2.2.2.1).trans h⟩)

noncomputable def Γ_series_Twice : Env := { T := T, Φ := fun i => bif Nat.beq i 60 then some en_mat_Times else bif Nat.beq i 61 then some en_mat_Plus else none, ann := fun i => [] }
theorem series_Twice_eq (K : Nat) (p : (List (List dS)) × (List (List dS)) × Unit) (bits : Int) : exF Γ_series_Twice K Tryz.f26 (.pair (.pair (.sl lS) (.pair (.sl lS) .unit)) tE) (.pair (.pair (.sl lS) (.pair (.sl lS) .unit)) tE) [] (p, bits, ()) = series_Twice p bits := by kernel_rfl
theorem env_series_Twice : EnvOK Tryz.prog G Γ_series_Twice := ⟨T_ok, ((phi_cons fn_mat_Times (phi_cons fn_mat_Plus phi_nil)) : PhiOK Tryz.prog G Γ_series_Twice.Φ), fun _ _ h => (by cases h), mixed⟩
theorem fn_series_Twice : FnOK Tryz.prog G 26 en_series_Twice := FnOK.of env_series_Twice Tryz.func26 (by kernel_rfl) (by kernel_rfl) (of_decide_eq_true (by kernel_rfl)) (fun x y h => ⟨0, (series_Twice_eq 0 x.1 x.2.1).trans h⟩)

noncomputable def Γ_series_Make : Env := { T := T, Φ := fun i => bif Nat.beq i 10 then some en_ratio_Sign else bif Nat.beq i 21 then some en_mat_Check else bif Nat.beq i 22 then some en_mat_Scale else bif Nat.beq i 23 then some en_mat_Norm else bif Nat.beq i 24 then some en_series_halves else bif Nat.beq i 25 then some en_series_small else bif Nat.beq i 26 then some en_series_Twice else none, ann := fun i => bif Nat.beq i 17 then [(2, .c .sc), (6, .var 100 [.data lS, .data lS]), (10, .c .sc), (14, .var 101 [.data lS, .data lS]), (74, .c .sc), (75, .c .sc)] else [] }
noncomputable def series_Make_c : Code := (Tryz.f4.body).getD .skip
noncomputable def series_Make_fin := finish Γ_series_Make Tryz.f4.results.toList (.pair (.pair (.sl lS) (.pair (.sl lS) .unit)) tE) []
noncomputable def series_Make_k0 (κ : Kt (.pair (.pair (.sl lS) (.pair (.sl lS) .unit)) tE)) (a : Int) (b c : List (List dS)) (d : Int) (e f : List (List dS)) (g h : Int) := κ { t := (upd (upd (upd (upd (upd (upd (fun _ => .undef) 2 (.one (.int .i64 a))) 6 (.one (.vptr 100 0))) 10 (.one (.int .i64 d))) 14 (.one (.vptr 101 0))) 74 (.one (.int .i64 g))) 75 (.one (.int .i64 h))), m := (upd (upd (upd (fun _ => .free) 0 .held) 100 (.var true [.sl lS b, .sl lS c])) 101 (.var true [.sl lS e, .sl lS f])), nx := 1000000, n := 90 }
noncomputable def series_Make_A0 (K : Nat) := loopAt Γ_series_Make K [.r, .r, .r, .r, .r, .r, .r, .r, .r, .r, .l, .r, .b] series_Make_c [] series_Make_fin (fun _ _ => none) series_Make_fin
theorem series_Make_loop0 (K : Nat) : ∀ n, series_Make_k0 (series_Make_A0 K n) = series_Make_l0 K n
  | 0 => by kernel_rfl
  | n + 1 => Eq.trans (b := series_Make_s0 (series_Make_k0 (series_Make_A0 K n))) (by kernel_rfl) (by rw [series_Make_loop0 K n]; rfl)
theorem series_Make_eq (K : Nat) (a : List (List dR)) (t : dR) (bits : Int) : exF Γ_series_Make K Tryz.f4 (.pair (.sl lR) (.pair tR tE)) (.pair (.pair (.sl lS) (.pair (.sl lS) .unit)) tE) [] (a, t, bits, ()) = series_Make K a t bits :=
  Eq.trans (b := series_Make_b (series_Make_k0 (series_Make_A0 K K)) a t bits) (by kernel_rfl) (by rw [series_Make_loop0 K K]; rfl)
theorem env_series_Make : EnvOK Tryz.prog G Γ_series_Make := ⟨T_ok, ((phi_cons fn_ratio_Sign (phi_cons fn_mat_Check (phi_cons fn_mat_Scale (phi_cons fn_mat_Norm (phi_cons fn_series_halves (phi_cons fn_series_small (phi_cons fn_series_Twice phi_nil))))))) : PhiOK Tryz.prog G Γ_series_Make.Φ), fun _ _ h => (by cases h), mixed⟩
theorem fn_series_Make : FnOK Tryz.prog G 4 en_series_Make := FnOK.of env_series_Make Tryz.func4 (by kernel_rfl) (by kernel_rfl) (of_decide_eq_true (by kernel_rfl)) (fun x y h => ⟨100, (series_Make_eq 100 x.1 x.2.1 x.2.2.1).trans h⟩)

noncomputable def Γ_grow_check : Env := { T := T, Φ := fun i => bif Nat.beq i 10 then some en_ratio_Sign else bif Nat.beq i 13 then some en_ratio_Compare else bif Nat.beq i 14 then some en_ratio_Of else none, ann := fun i => [], ord := fun i => bif Nat.beq i 3 then [0, 1, 2, 3, 4, 5, 6, 7] else [] }
theorem grow_check_eq (K : Nat) (r : dR) (bits : Int) : exF Γ_grow_check K Tryz.f63 (.pair tR tE) tE [] (r, bits, ()) = grow_check r bits := by kernel_rfl
theorem env_grow_check : EnvOK Tryz.prog G Γ_grow_check := ⟨T_ok, ((phi_cons fn_ratio_Sign (phi_cons fn_ratio_Compare (phi_cons fn_ratio_Of phi_nil))) : PhiOK Tryz.prog G Γ_grow_check.Φ), fun _ _ h => (by cases h), mixed⟩
theorem fn_grow_check : FnOK Tryz.prog G 63 en_grow_check := FnOK.of env_grow_check Tryz.func63 (by kernel_rfl) (by kernel_rfl) (of_decide_eq_true (by kernel_rfl)) (fun x y h => ⟨0, (grow_check_eq 0 x.1 x.2.1).trans h⟩)

noncomputable def Γ_grow_pair : Env := { T := T, Φ := fun i => bif Nat.beq i 4 then some en_series_Make else bif Nat.beq i 14 then some en_ratio_Of else bif Nat.beq i 63 then some en_grow_check else none, ann := fun i => [], ord := fun i => bif Nat.beq i 4 then [0, 4, 1, 2, 3, 5, 6, 7, 8, 9] else [] }
theorem grow_pair_eq (K : Nat) (r : dR) (bits : Int) : exF Γ_grow_pair K Tryz.f29 (.pair tR tE) (.pair (.pair (.sl lS) (.pair (.sl lS) .unit)) tE) [] (r, bits, ()) = grow_pair r bits := by kernel_rfl
theorem env_grow_pair : EnvOK Tryz.prog G Γ_grow_pair := ⟨T_ok, ((phi_cons fn_series_Make (phi_cons fn_ratio_Of (phi_cons fn_grow_check phi_nil))) : PhiOK Tryz.prog G Γ_grow_pair.Φ), fun _ _ h => (by cases h), mixed⟩
theorem fn_grow_pair : FnOK Tryz.prog G 29 en_grow_pair := FnOK.of env_grow_pair Tryz.func29 (by kernel_rfl) (by kernel_rfl) (of_decide_eq_true (by kernel_rfl)) (fun x y h => ⟨0, (grow_pair_eq 0 x.1 x.2.1).trans h⟩)

noncomputable def Γ_grow_Exp : Env := { T := T, Φ := fun i => bif Nat.beq i 29 then some en_grow_pair else none, ann := fun i => [] }
theorem grow_Exp_eq (K : Nat) (r : dR) (bits : Int) : exF Γ_grow_Exp K Tryz.f7 (.pair tR tE) (.pair tS tE) [] (r, bits, ()) = grow_Exp r bits := by kernel_rfl
theorem env_grow_Exp : EnvOK Tryz.prog G Γ_grow_Exp := ⟨T_ok, ((phi_cons fn_grow_pair phi_nil) : PhiOK Tryz.prog G Γ_grow_Exp.Φ), fun _ _ h => (by cases h), mixed⟩
theorem fn_grow_Exp : FnOK Tryz.prog G 7 en_grow_Exp := FnOK.of env_grow_Exp Tryz.func7 (by kernel_rfl) (by kernel_rfl) (of_decide_eq_true (by kernel_rfl)) (fun x y h => ⟨0, (grow_Exp_eq 0 x.1 x.2.1).trans h⟩)

noncomputable def Γ_ratio_Whole : Env := { T := T, Φ := fun i => bif Nat.beq i 28 then some en_limbs_Of else bif Nat.beq i 70 then some en_slices_Clone_api_Nat_uint32 else none, ann := fun i => [], ord := fun i => bif Nat.beq i 1 then [0, 1, 2, 3, 4, 5, 6, 7, 8] else [] }
theorem ratio_Whole_eq (K : Nat) (a : dI) : exF Γ_ratio_Whole K Tryz.f65 (.pair tI .unit) (.pair tR .unit) [] (a, ()) = ratio_Whole a := by kernel_rfl
theorem env_ratio_Whole : EnvOK Tryz.prog G Γ_ratio_Whole := ⟨T_ok, ((phi_cons fn_limbs_Of (phi_cons fn_slices_Clone_api_Nat_uint32 phi_nil)) : PhiOK Tryz.prog G Γ_ratio_Whole.Φ), fun _ _ h => (by cases h), mixed⟩
theorem fn_ratio_Whole : FnOK Tryz.prog G 65 en_ratio_Whole := FnOK.of env_ratio_Whole Tryz.func65 (by kernel_rfl) (by kernel_rfl) (of_decide_eq_true (by kernel_rfl)) (fun x y h => ⟨0, (ratio_Whole_eq 0 x.1).trans h⟩)

noncomputable def Γ_dyad_Ratio : Env := { T := T, Φ := fun i => bif Nat.beq i 6 then some en_ratio_Zero else bif Nat.beq i 28 then some en_limbs_Of else bif Nat.beq i 42 then some en_ratio_Make else bif Nat.beq i 55 then some en_limbs_Left else bif Nat.beq i 56 then some en_whole_Nat else bif Nat.beq i 64 then some en_whole_Left else bif Nat.beq i 65 then some en_ratio_Whole else none, ann := fun i => [], ord := fun i => bif Nat.beq i 6 then [1, 2, 3, 0, 4, 5, 6, 7, 8, 9] else bif Nat.beq i 9 then [0, 1, 2, 3, 4, 5, 6, 7, 8] else [] }
theorem dyad_Ratio_eq (K : Nat) (a : dY) : exF Γ_dyad_Ratio K Tryz.f30 (.pair tY .unit) (.pair tR tE) [] (a, ()) = dyad_Ratio a := by kernel_rfl
theorem env_dyad_Ratio : EnvOK Tryz.prog G Γ_dyad_Ratio := ⟨T_ok, ((phi_cons fn_ratio_Zero (phi_cons fn_limbs_Of (phi_cons fn_ratio_Make (phi_cons fn_limbs_Left (phi_cons fn_whole_Nat (phi_cons fn_whole_Left (phi_cons fn_ratio_Whole phi_nil))))))) : PhiOK Tryz.prog G Γ_dyad_Ratio.Φ), fun _ _ h => (by cases h), mixed⟩
theorem fn_dyad_Ratio : FnOK Tryz.prog G 30 en_dyad_Ratio := FnOK.of env_dyad_Ratio Tryz.func30 (by kernel_rfl) (by kernel_rfl) (of_decide_eq_true (by kernel_rfl)) (fun x y h => ⟨0, (dyad_Ratio_eq 0 x.1).trans h⟩)

noncomputable def Γ_limbs_Small : Env := { T := T, Φ := fun i => none, ann := fun i => bif Nat.beq i 5 then [(4, .c .sc), (10, .c (.data (.int .u32))), (11, .c .sc), (12, .c .sc)] else [] }
noncomputable def limbs_Small_c : Code := (Tryz.f92.body).getD .skip
noncomputable def limbs_Small_fin := finish Γ_limbs_Small Tryz.f92.results.toList (.pair (.int .u64) tE) []
noncomputable def limbs_Small_k0 (κ : Kt (.pair (.int .u64) tE)) (a : Int) (b : List Int) (c d : Int) := κ { t := (upd (upd (upd (upd (fun _ => .undef) 4 (.one (.int .u64 a))) 10 (.one (.sl (.int .u32) b))) 11 (.one (.int .i64 c))) 12 (.one (.int .i64 d))), m := (upd (fun _ => .free) 0 .held), nx := 1000000, n := 26 }
noncomputable def limbs_Small_A0 (K : Nat) := loopAt Γ_limbs_Small K [.r, .r, .r, .l, .r, .b] limbs_Small_c [] limbs_Small_fin (fun _ _ => none) limbs_Small_fin
theorem limbs_Small_loop0 (K : Nat) : ∀ n, limbs_Small_k0 (limbs_Small_A0 K n) = limbs_Small_l0 K n
  | 0 => by kernel_rfl
  | n + 1 => Eq.trans (b := limbs_Small_s0 (limbs_Small_k0 (limbs_Small_A0 K n))) (by kernel_rfl) (by rw [limbs_Small_loop0 K n]; rfl)
theorem limbs_Small_eq (K : Nat) (a : List Int) : exF Γ_limbs_Small K Tryz.f92 (.pair lU .unit) (.pair (.int .u64) tE) [] (a, ()) = limbs_Small K a :=
  Eq.trans (b := limbs_Small_b (limbs_Small_k0 (limbs_Small_A0 K K)) a) (by kernel_rfl) (by rw [limbs_Small_loop0 K K]; rfl)
theorem env_limbs_Small : EnvOK Tryz.prog G Γ_limbs_Small := ⟨T_ok, (phi_nil : PhiOK Tryz.prog G Γ_limbs_Small.Φ), fun _ _ h => (by cases h), mixed⟩
theorem fn_limbs_Small : FnOK Tryz.prog G 92 en_limbs_Small := FnOK.of env_limbs_Small Tryz.func92 (by kernel_rfl) (by kernel_rfl) (of_decide_eq_true (by kernel_rfl)) (fun x y h => by obtain ⟨K, hK⟩ := limbs_Small_ok x y h; exact ⟨K, (limbs_Small_eq K x.1).trans hK⟩)

noncomputable def Γ_slices_Reverse_s_byte_byte : Env := { T := T, Φ := fun i => none, ann := fun i => bif Nat.beq i 1 then [(0, .c .win), (2, .c .sc), (3, .c .sc)] else [], ord := fun i => bif Nat.beq i 3 then [0, 1, 2, 3, 4, 5, 6, 7, 8, 9, 10, 11, 12, 13, 14, 15] else [] }
noncomputable def slices_Reverse_s_byte_byte_c : Code := (Tryz.f93.body).getD .skip
noncomputable def slices_Reverse_s_byte_byte_fin := finishW Γ_slices_Reverse_s_byte_byte 5 Tryz.f93.results.toList (.pair (.sl (.int .u8)) .unit) []
noncomputable def slices_Reverse_s_byte_byte_k0 (κ : Kt (.pair (.sl (.int .u8)) .unit)) (a : List Int) (b c : Nat) (d e : Int) := κ { t := (upd (upd (upd (fun _ => .undef) 0 (.one (.sub 0 b c))) 2 (.one (.int .i64 d))) 3 (.one (.int .i64 e))), m := (upd (upd (fun _ => .free) 0 .held) 0 (.row true 5 (.int .u8) a)), nx := 1000000, n := 28 }
noncomputable def slices_Reverse_s_byte_byte_A0 (K : Nat) := loopAt Γ_slices_Reverse_s_byte_byte K [.r, .b] slices_Reverse_s_byte_byte_c [] slices_Reverse_s_byte_byte_fin (fun _ _ => none) slices_Reverse_s_byte_byte_fin
theorem slices_Reverse_s_byte_byte_loop0 (K : Nat) : ∀ n, slices_Reverse_s_byte_byte_k0 (slices_Reverse_s_byte_byte_A0 K n) = slices_Reverse_s_byte_byte_l0 K n
  | 0 => by kernel_rfl
  | n + 1 => Eq.trans (b := slices_Reverse_s_byte_byte_s0 (slices_Reverse_s_byte_byte_k0 (slices_Reverse_s_byte_byte_A0 K n))) (by kernel_rfl) (by rw [slices_Reverse_s_byte_byte_loop0 K n]; rfl)
theorem slices_Reverse_s_byte_byte_eq (K : Nat) (s : List Int) (off : Int) (len : Int) : exW Γ_slices_Reverse_s_byte_byte K Tryz.f93 5 (.pair (.sl (.int .u8)) (.pair (.int .i64) tE)) (.pair (.sl (.int .u8)) .unit) [] (s, off, len, ()) = slices_Reverse_s_byte_byte K s off len :=
  Eq.trans (b := slices_Reverse_s_byte_byte_b (slices_Reverse_s_byte_byte_k0 (slices_Reverse_s_byte_byte_A0 K K)) s off len) (by kernel_rfl) (by rw [slices_Reverse_s_byte_byte_loop0 K K]; rfl)
theorem env_slices_Reverse_s_byte_byte : EnvOK Tryz.prog G Γ_slices_Reverse_s_byte_byte := ⟨T_ok, (phi_nil : PhiOK Tryz.prog G Γ_slices_Reverse_s_byte_byte.Φ), fun _ _ h => (by cases h), mixed⟩
theorem fn_slices_Reverse_s_byte_byte : FnOK Tryz.prog G 93 en_slices_Reverse_s_byte_byte := FnOK.ofW env_slices_Reverse_s_byte_byte Tryz.func93 (by kernel_rfl) (by kernel_rfl) (of_decide_eq_true (by kernel_rfl)) slices_Reverse_s_byte_byte_len (fun x y h => by obtain ⟨K, hK⟩ := slices_Reverse_s_byte_byte_ok x y h; exact ⟨K, (slices_Reverse_s_byte_byte_eq K x.1 x.2.1 x.2.2.1).trans hK⟩)

noncomputable def Γ_strings_trimLeftByte : Env := { T := T, Φ := fun i => none, ann := fun i => bif Nat.beq i 1 then [(0, .c .sc), (1, .c .sc)] else [] }
noncomputable def strings_trimLeftByte_c : Code := (Tryz.f110.body).getD .skip
noncomputable def strings_trimLeftByte_fin := finish Γ_strings_trimLeftByte Tryz.f110.results.toList (.pair .str .unit) []
noncomputable def strings_trimLeftByte_k0 (κ : Kt (.pair .str .unit)) (a : ByteArray) (b : Int) := κ { t := (upd (upd (fun _ => .undef) 0 (.one (.str a))) 1 (.one (.int .u8 b))), m := (upd (fun _ => .free) 0 .held), nx := 1000000, n := 17 }
noncomputable def strings_trimLeftByte_A0 (K : Nat) := loopAt Γ_strings_trimLeftByte K [.r, .l, .b] strings_trimLeftByte_c [] strings_trimLeftByte_fin (fun _ _ => none) strings_trimLeftByte_fin
theorem strings_trimLeftByte_loop0 (K : Nat) : ∀ n, strings_trimLeftByte_k0 (strings_trimLeftByte_A0 K n) = strings_trimLeftByte_l0 K n
  | 0 => by kernel_rfl
  | n + 1 => Eq.trans (b := strings_trimLeftByte_s0 (strings_trimLeftByte_k0 (strings_trimLeftByte_A0 K n))) (by kernel_rfl) (by rw [strings_trimLeftByte_loop0 K n]; rfl)
theorem strings_trimLeftByte_eq (K : Nat) (s : ByteArray) (c : Int) : exF Γ_strings_trimLeftByte K Tryz.f110 (.pair .str (.pair (.int .u8) .unit)) (.pair .str .unit) [] (s, c, ()) = strings_trimLeftByte K s c :=
  Eq.trans (b := strings_trimLeftByte_b (strings_trimLeftByte_k0 (strings_trimLeftByte_A0 K K)) s c) (by kernel_rfl) (by rw [strings_trimLeftByte_loop0 K K]; rfl)
theorem env_strings_trimLeftByte : EnvOK Tryz.prog G Γ_strings_trimLeftByte := ⟨T_ok, (phi_nil : PhiOK Tryz.prog G Γ_strings_trimLeftByte.Φ), fun _ _ h => (by cases h), mixed⟩
theorem fn_strings_trimLeftByte : FnOK Tryz.prog G 110 en_strings_trimLeftByte := FnOK.of env_strings_trimLeftByte Tryz.func110 (by kernel_rfl) (by kernel_rfl) (of_decide_eq_true (by kernel_rfl)) (fun x y h => by obtain ⟨K, hK⟩ := strings_trimLeftByte_ok x y h; exact ⟨K, (strings_trimLeftByte_eq K x.1 x.2.1).trans hK⟩)

theorem fn_strings_makeASCIISet : FnOK Tryz.prog G 111 en_strings_makeASCIISet := FnOK.dead Tryz.func111 (by kernel_rfl) (by kernel_rfl)

noncomputable def Γ_strings_TrimLeft : Env := { T := T, Φ := fun i => bif Nat.beq i 110 then some en_strings_trimLeftByte else bif Nat.beq i 111 then some en_strings_makeASCIISet else none, ann := fun i => [] }
theorem strings_TrimLeft_eq (K : Nat) (s : ByteArray) (cutset : ByteArray) : exF Γ_strings_TrimLeft K Tryz.f94 (.pair .str (.pair .str .unit)) (.pair .str .unit) [] (s, cutset, ()) = strings_TrimLeft s cutset := by kernel_rfl
theorem env_strings_TrimLeft : EnvOK Tryz.prog G Γ_strings_TrimLeft := ⟨T_ok, ((phi_cons fn_strings_trimLeftByte (phi_cons fn_strings_makeASCIISet phi_nil)) : PhiOK Tryz.prog G Γ_strings_TrimLeft.Φ), fun _ _ h => (by cases h), mixed⟩
theorem fn_strings_TrimLeft : FnOK Tryz.prog G 94 en_strings_TrimLeft := FnOK.of env_strings_TrimLeft Tryz.func94 (by kernel_rfl) (by kernel_rfl) (of_decide_eq_true (by kernel_rfl)) (fun x y h => ⟨0, (strings_TrimLeft_eq 0 x.1 x.2.1).trans h⟩)

noncomputable def Γ_digits_Text : Env := { T := T, Φ := fun i => bif Nat.beq i 28 then some en_limbs_Of else bif Nat.beq i 69 then some en_limbs_Div else bif Nat.beq i 92 then some en_limbs_Small else bif Nat.beq i 93 then some en_slices_Reverse_s_byte_byte else bif Nat.beq i 94 then some en_strings_TrimLeft else none, ann := fun i => bif Nat.beq i 4 then [(0, .c (.data (.int .u32))), (3, .c (.own 100 5 (.int .u8)))] else bif Nat.beq i 8 then [(3, .c (.own 100 5 (.int .u8))), (4, .c (.data (.int .u32))), (7, .c .sc), (27, .c .sc)] else [] }
noncomputable def digits_Text_c : Code := (Tryz.f67.body).getD .skip
noncomputable def digits_Text_fin := finish Γ_digits_Text Tryz.f67.results.toList (.pair .str .unit) []
noncomputable def digits_Text_k0 (κ : Kt (.pair .str .unit)) (a b : List Int) := κ { t := (upd (upd (fun _ => .undef) 0 (.one (.sl (.int .u32) a))) 3 (.one (.own 100))), m := (upd (upd (fun _ => .free) 0 .held) 100 (.row true 5 (.int .u8) b)), nx := 1000000, n := 45 }
noncomputable def digits_Text_k1 (κ : Kt (.pair .str .unit)) (a b : List Int) (c d : Int) := κ { t := (upd (upd (upd (upd (fun _ => .undef) 3 (.one (.own 100))) 4 (.one (.sl (.int .u32) b))) 7 (.one (.int .u64 c))) 27 (.one (.int .i64 d))), m := (upd (upd (fun _ => .free) 0 .held) 100 (.row true 5 (.int .u8) a)), nx := 1000000, n := 45 }
noncomputable def digits_Text_A1 (K : Nat) (κ0 : Kt (.pair .str .unit)) := loopAt Γ_digits_Text K [.r, .r, .r, .l, .b, .c, .r, .b, .r, .r, .l, .r, .b] digits_Text_c [fun st => mask [(0, .c (.data (.int .u32))), (3, .c (.own 100 5 (.int .u8)))] 1000000 st (κ0)] digits_Text_fin (fun _ _ => none) digits_Text_fin
theorem digits_Text_loop1 (K : Nat) (κ0 : Kt (.pair .str .unit)) : ∀ n, digits_Text_k1 (digits_Text_A1 K κ0 n) = digits_Text_l1 K (digits_Text_k0 κ0) n
  | 0 => by kernel_rfl
  | n + 1 => Eq.trans (b := digits_Text_s1 (digits_Text_k0 κ0) (digits_Text_k1 (digits_Text_A1 K κ0 n))) (by kernel_rfl) (by rw [digits_Text_loop1 K κ0 n]; rfl)
noncomputable def digits_Text_A0 (K : Nat) := loopAt Γ_digits_Text K [.r, .r, .r, .l, .b] digits_Text_c [] digits_Text_fin (fun _ _ => none) digits_Text_fin
theorem digits_Text_loop0 (K : Nat) : ∀ n, digits_Text_k0 (digits_Text_A0 K n) = digits_Text_l0 K n
  | 0 => by kernel_rfl
  | n + 1 => Eq.trans (b := digits_Text_s0 (digits_Text_k1 (digits_Text_A1 K (digits_Text_A0 K n) K)) (digits_Text_k0 (digits_Text_A0 K n))) (by kernel_rfl) (by rw [digits_Text_loop1 K (digits_Text_A0 K n) K, digits_Text_loop0 K n]; rfl)
theorem digits_Text_eq (K : Nat) (a : List Int) : exF Γ_digits_Text K Tryz.f67 (.pair lU .unit) (.pair .str .unit) [] (a, ()) = digits_Text K a :=
  Eq.trans (b := digits_Text_b (digits_Text_k0 (digits_Text_A0 K K)) a) (by kernel_rfl) (by rw [digits_Text_loop0 K K]; rfl)
theorem env_digits_Text : EnvOK Tryz.prog G Γ_digits_Text := ⟨T_ok, ((phi_cons fn_limbs_Of (phi_cons fn_limbs_Div (phi_cons fn_limbs_Small (phi_cons fn_slices_Reverse_s_byte_byte (phi_cons fn_strings_TrimLeft phi_nil))))) : PhiOK Tryz.prog G Γ_digits_Text.Φ), fun _ _ h => (by cases h), mixed⟩
theorem fn_digits_Text : FnOK Tryz.prog G 67 en_digits_Text := FnOK.of env_digits_Text Tryz.func67 (by kernel_rfl) (by kernel_rfl) (of_decide_eq_true (by kernel_rfl)) (fun x y h => by obtain ⟨K, hK⟩ := digits_Text_ok x y h; exact ⟨K, (digits_Text_eq K x.1).trans hK⟩)

noncomputable def Γ_whole_Text : Env := { T := T, Φ := fun i => bif Nat.beq i 67 then some en_digits_Text else none, ann := fun i => [] }
theorem whole_Text_eq (K : Nat) (a : dI) : exF Γ_whole_Text K Tryz.f66 (.pair tI .unit) (.pair .str .unit) [] (a, ()) = whole_Text a := by kernel_rfl
theorem env_whole_Text : EnvOK Tryz.prog G Γ_whole_Text := ⟨T_ok, ((phi_cons fn_digits_Text phi_nil) : PhiOK Tryz.prog G Γ_whole_Text.Φ), fun _ _ h => (by cases h), mixed⟩
theorem fn_whole_Text : FnOK Tryz.prog G 66 en_whole_Text := FnOK.of env_whole_Text Tryz.func66 (by kernel_rfl) (by kernel_rfl) (of_decide_eq_true (by kernel_rfl)) (fun x y h => ⟨0, (whole_Text_eq 0 x.1).trans h⟩)

noncomputable def Γ_ratio_Text : Env := { T := T, Φ := fun i => bif Nat.beq i 28 then some en_limbs_Of else bif Nat.beq i 34 then some en_limbs_Compare else bif Nat.beq i 66 then some en_whole_Text else bif Nat.beq i 67 then some en_digits_Text else none, ann := fun i => [], ord := fun i => bif Nat.beq i 1 then [0, 1, 2, 3, 4] else bif Nat.beq i 3 then [0, 1, 4, 5, 2, 3, 6, 7, 8] else [] }
theorem ratio_Text_eq (K : Nat) (a : dR) : exF Γ_ratio_Text K Tryz.f31 (.pair tR .unit) (.pair .str .unit) [] (a, ()) = ratio_Text a := by kernel_rfl
theorem env_ratio_Text : EnvOK Tryz.prog G Γ_ratio_Text := ⟨T_ok, ((phi_cons fn_limbs_Of (phi_cons fn_limbs_Compare (phi_cons fn_whole_Text (phi_cons fn_digits_Text phi_nil)))) : PhiOK Tryz.prog G Γ_ratio_Text.Φ), fun _ _ h => (by cases h), mixed⟩
theorem fn_ratio_Text : FnOK Tryz.prog G 31 en_ratio_Text := FnOK.of env_ratio_Text Tryz.func31 (by kernel_rfl) (by kernel_rfl) (of_decide_eq_true (by kernel_rfl)) (fun x y h => ⟨0, (ratio_Text_eq 0 x.1).trans h⟩)

noncomputable def Γ_span_Text : Env := { T := T, Φ := fun i => bif Nat.beq i 30 then some en_dyad_Ratio else bif Nat.beq i 31 then some en_ratio_Text else none, ann := fun i => [], ord := fun i => bif Nat.beq i 5 then [0, 3, 1, 2, 4, 5, 6] else [] }
theorem span_Text_eq (K : Nat) (a : dS) : exF Γ_span_Text K Tryz.f8 (.pair tS .unit) (.pair .str .unit) [] (a, ()) = span_Text a := by kernel_rfl
theorem env_span_Text : EnvOK Tryz.prog G Γ_span_Text := ⟨T_ok, ((phi_cons fn_dyad_Ratio (phi_cons fn_ratio_Text phi_nil)) : PhiOK Tryz.prog G Γ_span_Text.Φ), fun _ _ h => (by cases h), mixed⟩
theorem fn_span_Text : FnOK Tryz.prog G 8 en_span_Text := FnOK.of env_span_Text Tryz.func8 (by kernel_rfl) (by kernel_rfl) (of_decide_eq_true (by kernel_rfl)) (fun x y h => ⟨0, (span_Text_eq 0 x.1).trans h⟩)

noncomputable def Γ_grow_Rate : Env := { T := T, Φ := fun i => bif Nat.beq i 6 then some en_ratio_Zero else bif Nat.beq i 16 then some en_ratio_Mul else bif Nat.beq i 23 then some en_mat_Norm else none, ann := fun i => [] }
theorem grow_Rate_eq (K : Nat) (a : List (List dR)) (t : dR) : exF Γ_grow_Rate K Tryz.f12 (.pair (.sl lR) (.pair tR .unit)) (.pair tR tE) [] (a, t, ()) = grow_Rate a t := by kernel_rfl
theorem env_grow_Rate : EnvOK Tryz.prog G Γ_grow_Rate := ⟨T_ok, ((phi_cons fn_ratio_Zero (phi_cons fn_ratio_Mul (phi_cons fn_mat_Norm phi_nil))) : PhiOK Tryz.prog G Γ_grow_Rate.Φ), fun _ _ h => (by cases h), mixed⟩
theorem fn_grow_Rate : FnOK Tryz.prog G 12 en_grow_Rate := FnOK.of env_grow_Rate Tryz.func12 (by kernel_rfl) (by kernel_rfl) (of_decide_eq_true (by kernel_rfl)) (fun x y h => ⟨0, (grow_Rate_eq 0 x.1 x.2.1).trans h⟩)

noncomputable def Γ_grow_One : Env := { T := T, Φ := fun i => bif Nat.beq i 29 then some en_grow_pair else none, ann := fun i => [] }
theorem grow_One_eq (K : Nat) (r : dR) (bits : Int) : exF Γ_grow_One K Tryz.f17 (.pair tR tE) (.pair tS tE) [] (r, bits, ()) = grow_One r bits := by kernel_rfl
theorem env_grow_One : EnvOK Tryz.prog G Γ_grow_One := ⟨T_ok, ((phi_cons fn_grow_pair phi_nil) : PhiOK Tryz.prog G Γ_grow_One.Φ), fun _ _ h => (by cases h), mixed⟩
theorem fn_grow_One : FnOK Tryz.prog G 17 en_grow_One := FnOK.of env_grow_One Tryz.func17 (by kernel_rfl) (by kernel_rfl) (of_decide_eq_true (by kernel_rfl)) (fun x y h => ⟨0, (grow_One_eq 0 x.1 x.2.1).trans h⟩)

noncomputable def Γ_span_Meet : Env := { T := T, Φ := fun i => bif Nat.beq i 46 then some en_dyad_Min else bif Nat.beq i 47 then some en_dyad_Max else bif Nat.beq i 49 then some en_dyad_Less else none, ann := fun i => [], ord := fun i => bif Nat.beq i 1 then [0, 1, 2, 3, 5, 6, 7, 8, 4, 9, 10, 11, 12] else [] }
theorem span_Meet_eq (K : Nat) (a : dS) (b : dS) : exF Γ_span_Meet K Tryz.f19 (.pair tS (.pair tS .unit)) (.pair tS tE) [] (a, b, ()) = span_Meet a b := by kernel_rfl
theorem env_span_Meet : EnvOK Tryz.prog G Γ_span_Meet := ⟨T_ok, ((phi_cons fn_dyad_Min (phi_cons fn_dyad_Max (phi_cons fn_dyad_Less phi_nil))) : PhiOK Tryz.prog G Γ_span_Meet.Φ), fun _ _ h => (by cases h), mixed⟩
theorem fn_span_Meet : FnOK Tryz.prog G 19 en_span_Meet := FnOK.of env_span_Meet Tryz.func19 (by kernel_rfl) (by kernel_rfl) (of_decide_eq_true (by kernel_rfl)) (fun x y h => ⟨0, (span_Meet_eq 0 x.1 x.2.1).trans h⟩)

noncomputable def Γ_dyad_Cmp : Env := { T := T, Φ := fun i => bif Nat.beq i 13 then some en_ratio_Compare else bif Nat.beq i 30 then some en_dyad_Ratio else none, ann := fun i => [] }
theorem dyad_Cmp_eq (K : Nat) (a : dY) (b : dR) : exF Γ_dyad_Cmp K Tryz.f50 (.pair tY (.pair tR .unit)) (.pair (.int .i64) tE) [] (a, b, ()) = dyad_Cmp a b := by kernel_rfl
theorem env_dyad_Cmp : EnvOK Tryz.prog G Γ_dyad_Cmp := ⟨T_ok, ((phi_cons fn_ratio_Compare (phi_cons fn_dyad_Ratio phi_nil)) : PhiOK Tryz.prog G Γ_dyad_Cmp.Φ), fun _ _ h => (by cases h), mixed⟩
theorem fn_dyad_Cmp : FnOK Tryz.prog G 50 en_dyad_Cmp := FnOK.of env_dyad_Cmp Tryz.func50 (by kernel_rfl) (by kernel_rfl) (of_decide_eq_true (by kernel_rfl)) (fun x y h => ⟨0, (dyad_Cmp_eq 0 x.1 x.2.1).trans h⟩)

noncomputable def Γ_span_HasRatio : Env := { T := T, Φ := fun i => bif Nat.beq i 50 then some en_dyad_Cmp else none, ann := fun i => [] }
theorem span_HasRatio_eq (K : Nat) (a : dS) (r : dR) : exF Γ_span_HasRatio K Tryz.f20 (.pair tS (.pair tR .unit)) (.pair .bool tE) [] (a, r, ()) = span_HasRatio a r := by kernel_rfl
theorem env_span_HasRatio : EnvOK Tryz.prog G Γ_span_HasRatio := ⟨T_ok, ((phi_cons fn_dyad_Cmp phi_nil) : PhiOK Tryz.prog G Γ_span_HasRatio.Φ), fun _ _ h => (by cases h), mixed⟩
theorem fn_span_HasRatio : FnOK Tryz.prog G 20 en_span_HasRatio := FnOK.of env_span_HasRatio Tryz.func20 (by kernel_rfl) (by kernel_rfl) (of_decide_eq_true (by kernel_rfl)) (fun x y h => ⟨0, (span_HasRatio_eq 0 x.1 x.2.1).trans h⟩)

noncomputable def Γ_girdletop_WholePowers : Env := { T := T, Φ := fun i => bif Nat.beq i 4 then some en_series_Make else bif Nat.beq i 5 then some en_mat_One else bif Nat.beq i 6 then some en_ratio_Zero else bif Nat.beq i 7 then some en_grow_Exp else bif Nat.beq i 8 then some en_span_Text else bif Nat.beq i 9 then some en_ratio_Check else bif Nat.beq i 10 then some en_ratio_Sign else bif Nat.beq i 11 then some en_mat_Zero else bif Nat.beq i 12 then some en_grow_Rate else bif Nat.beq i 13 then some en_ratio_Compare else bif Nat.beq i 14 then some en_ratio_Of else bif Nat.beq i 15 then some en_span_Near else bif Nat.beq i 16 then some en_ratio_Mul else bif Nat.beq i 17 then some en_grow_One else bif Nat.beq i 18 then some en_span_Mul else bif Nat.beq i 19 then some en_span_Meet else bif Nat.beq i 20 then some en_span_HasRatio else none, ann := fun i => bif Nat.beq i 10 then [(0, .c (.data tR)), (3, .var 100 [.sc, .data (.int .u32), .data (.int .u32)]), (5, .var 101 [.data lS, .data lS]), (10, .c (.deep 102 22 28 tR)), (97, .c (.data tR)), (98, .c .sc), (99, .c .sc)] else bif Nat.beq i 25 then [(0, .c (.data tR)), (3, .var 100 [.sc, .data (.int .u32), .data (.int .u32)]), (5, .var 101 [.data lS, .data lS]), (17, .var 102 [.sc, .data (.int .u32), .sc, .sc, .data (.int .u32), .sc]), (160, .c (.data tR)), (161, .c .sc), (162, .c .sc)] else bif Nat.beq i 36 then [(0, .c (.data tR)), (3, .var 100 [.sc, .data (.int .u32), .data (.int .u32)]), (5, .var 101 [.data lS, .data lS]), (17, .var 102 [.sc, .data (.int .u32), .sc, .sc, .data (.int .u32), .sc]), (19, .c .sc), (160, .c (.data tR)), (161, .c .sc), (162, .c .sc), (234, .c .sc), (235, .c .sc)] else [], ord := fun i => bif Nat.beq i 14 then [0, 1, 2, 3, 4, 5, 6, 7] else bif Nat.beq i 17 then [0, 1, 2, 3, 4, 5, 6, 7] else bif Nat.beq i 31 then [0, 1, 2, 3, 4, 5, 6, 7, 8, 9, 10, 11, 12, 13, 14, 15] else bif Nat.beq i 32 then [0, 1, 2, 3, 4, 5, 6, 7, 8, 9, 10, 11, 12, 13, 14, 15] else bif Nat.beq i 38 then [0, 1, 2, 3, 4, 5, 6, 7, 8, 9, 10, 11, 12, 13, 14] else [] }
noncomputable def girdletop_WholePowers_c : Code := (Tryz.f3.body).getD .skip
noncomputable def girdletop_WholePowers_fin := finish Γ_girdletop_WholePowers Tryz.f3.results.toList (.pair .bool .unit) []
noncomputable def girdletop_WholePowers_k0 (κ : Kt (.pair .bool .unit)) (a : List dR) (b : Bool) (c d : List Int) (e f : List (List dS)) (g : List (List dR)) (h : List dR) (i j : Int) := κ { t := (upd (upd (upd (upd (upd (upd (upd (fun _ => .undef) 0 (.one (.sl tR a))) 3 (.one (.vptr 100 0))) 5 (.one (.vptr 101 0))) 10 (.one (.own 102))) 97 (.one (.sl tR h))) 98 (.one (.int .i64 i))) 99 (.one (.int .i64 j))), m := (upd (upd (upd (upd (fun _ => .free) 0 .held) 100 (.var true [.bool b, .sl (.int .u32) c, .sl (.int .u32) d])) 101 (.var true [.sl lS e, .sl lS f])) 102 (.deep true 22 28 tR g none 0)), nx := 1000000, n := 260 }
noncomputable def girdletop_WholePowers_k1 (κ : Kt (.pair .bool .unit)) (a : List dR) (b : Bool) (c d : List Int) (e f : List (List dS)) (g : Bool) (h : List Int) (i : Int) (j : Bool) (k : List Int) (l : Int) (o : List dR) (p q : Int) := κ { t := (upd (upd (upd (upd (upd (upd (upd (fun _ => .undef) 0 (.one (.sl tR a))) 3 (.one (.vptr 100 0))) 5 (.one (.vptr 101 0))) 17 (.one (.vptr 102 0))) 160 (.one (.sl tR o))) 161 (.one (.int .i64 p))) 162 (.one (.int .i64 q))), m := (upd (upd (upd (upd (fun _ => .free) 0 .held) 100 (.var true [.bool b, .sl (.int .u32) c, .sl (.int .u32) d])) 101 (.var true [.sl lS e, .sl lS f])) 102 (.var true [.bool g, .sl (.int .u32) h, .int .i64 i, .bool j, .sl (.int .u32) k, .int .i64 l])), nx := 1000000, n := 260 }
noncomputable def girdletop_WholePowers_k2 (κ : Kt (.pair .bool .unit)) (a : List dR) (b : Bool) (c d : List Int) (e f : List (List dS)) (g : Bool) (h : List Int) (i : Int) (j : Bool) (k : List Int) (l o : Int) (p : List dR) (q r s u : Int) := κ { t := (upd (upd (upd (upd (upd (upd (upd (upd (upd (upd (fun _ => .undef) 0 (.one (.sl tR a))) 3 (.one (.vptr 100 0))) 5 (.one (.vptr 101 0))) 17 (.one (.vptr 102 0))) 19 (.one (.int .i64 o))) 160 (.one (.sl tR p))) 161 (.one (.int .i64 q))) 162 (.one (.int .i64 r))) 234 (.one (.int .i64 s))) 235 (.one (.int .i64 u))), m := (upd (upd (upd (upd (fun _ => .free) 0 .held) 100 (.var true [.bool b, .sl (.int .u32) c, .sl (.int .u32) d])) 101 (.var true [.sl lS e, .sl lS f])) 102 (.var true [.bool g, .sl (.int .u32) h, .int .i64 i, .bool j, .sl (.int .u32) k, .int .i64 l])), nx := 1000000, n := 260 }
noncomputable def girdletop_WholePowers_A2 (K : Nat) (κ0 : Kt (.pair .bool .unit)) (κ1 : Kt (.pair .bool .unit)) := loopAt Γ_girdletop_WholePowers K [.r, .r, .r, .r, .r, .r, .r, .r, .r, .r, .r, .r, .l, .r, .b, .c, .r, .r, .l, .b, .r, .r, .r, .r, .r, .r, .r, .r, .r, .b] girdletop_WholePowers_c [fun st => mask [(0, .c (.data tR)), (3, .var 100 [.sc, .data (.int .u32), .data (.int .u32)]), (5, .var 101 [.data lS, .data lS]), (17, .var 102 [.sc, .data (.int .u32), .sc, .sc, .data (.int .u32), .sc]), (160, .c (.data tR)), (161, .c .sc), (162, .c .sc)] 1000000 st (κ1)] girdletop_WholePowers_fin (fun _ _ => none) girdletop_WholePowers_fin
theorem girdletop_WholePowers_loop2 (K : Nat) (κ0 : Kt (.pair .bool .unit)) (κ1 : Kt (.pair .bool .unit)) : ∀ n, girdletop_WholePowers_k2 (girdletop_WholePowers_A2 K κ0 κ1 n) = girdletop_WholePowers_l2 K (girdletop_WholePowers_k0 κ0) (girdletop_WholePowers_k1 κ1) n
  | 0 => by kernel_rfl
  | n + 1 => Eq.trans (b := girdletop_WholePowers_s2 (girdletop_WholePowers_k0 κ0) (girdletop_WholePowers_k1 κ1) (girdletop_WholePowers_k2 (girdletop_WholePowers_A2 K κ0 κ1 n))) (by kernel_rfl) (by rw [girdletop_WholePowers_loop2 K κ0 κ1 n]; rfl)
noncomputable def girdletop_WholePowers_A1 (K : Nat) (κ0 : Kt (.pair .bool .unit)) := loopAt Γ_girdletop_WholePowers K [.r, .r, .r, .r, .r, .r, .r, .r, .r, .r, .r, .r, .l, .r, .b] girdletop_WholePowers_c [] girdletop_WholePowers_fin (fun _ _ => none) girdletop_WholePowers_fin
theorem girdletop_WholePowers_loop1 (K : Nat) (κ0 : Kt (.pair .bool .unit)) : ∀ n, girdletop_WholePowers_k1 (girdletop_WholePowers_A1 K κ0 n) = girdletop_WholePowers_l1 K (girdletop_WholePowers_k0 κ0) n
  | 0 => by kernel_rfl
  | n + 1 => Eq.trans (b := girdletop_WholePowers_s1 (girdletop_WholePowers_k2 (girdletop_WholePowers_A2 K κ0 (girdletop_WholePowers_A1 K κ0 n) K)) (girdletop_WholePowers_k0 κ0) (girdletop_WholePowers_k1 (girdletop_WholePowers_A1 K κ0 n))) (by kernel_rfl) (by rw [girdletop_WholePowers_loop2 K κ0 (girdletop_WholePowers_A1 K κ0 n) K, girdletop_WholePowers_loop1 K κ0 n]; rfl)
noncomputable def girdletop_WholePowers_A0 (K : Nat) := loopAt Γ_girdletop_WholePowers K [.r, .r, .r, .r, .r, .r, .r, .l, .r, .b] girdletop_WholePowers_c [] girdletop_WholePowers_fin (fun _ _ => none) girdletop_WholePowers_fin
theorem girdletop_WholePowers_loop0 (K : Nat) : ∀ n, girdletop_WholePowers_k0 (girdletop_WholePowers_A0 K n) = girdletop_WholePowers_l0 K n
  | 0 => by kernel_rfl
  | n + 1 => Eq.trans (b := girdletop_WholePowers_s0 (girdletop_WholePowers_k1 (girdletop_WholePowers_A1 K (girdletop_WholePowers_A0 K n) K)) (girdletop_WholePowers_k0 (girdletop_WholePowers_A0 K n))) (by kernel_rfl) (by rw [girdletop_WholePowers_loop1 K (girdletop_WholePowers_A0 K n) K, girdletop_WholePowers_loop0 K n]; rfl)
theorem girdletop_WholePowers_eq (K : Nat) (list : List dR) (t : dR) : exF Γ_girdletop_WholePowers K Tryz.f3 (.pair lR (.pair tR .unit)) (.pair .bool .unit) [] (list, t, ()) = girdletop_WholePowers K list t :=
  Eq.trans (b := girdletop_WholePowers_b (girdletop_WholePowers_k0 (girdletop_WholePowers_A0 K K)) list t) (by kernel_rfl) (by rw [girdletop_WholePowers_loop0 K K]; rfl)
theorem env_girdletop_WholePowers : EnvOK Tryz.prog G Γ_girdletop_WholePowers := ⟨T_ok, ((phi_cons fn_series_Make (phi_cons fn_mat_One (phi_cons fn_ratio_Zero (phi_cons fn_grow_Exp (phi_cons fn_span_Text (phi_cons fn_ratio_Check (phi_cons fn_ratio_Sign (phi_cons fn_mat_Zero (phi_cons fn_grow_Rate (phi_cons fn_ratio_Compare (phi_cons fn_ratio_Of (phi_cons fn_span_Near (phi_cons fn_ratio_Mul (phi_cons fn_grow_One (phi_cons fn_span_Mul (phi_cons fn_span_Meet (phi_cons fn_span_HasRatio phi_nil))))))))))))))))) : PhiOK Tryz.prog G Γ_girdletop_WholePowers.Φ), fun _ _ h => (by cases h), mixed⟩
theorem fn_girdletop_WholePowers : FnOK Tryz.prog G 3 en_girdletop_WholePowers := FnOK.of env_girdletop_WholePowers Tryz.func3 (by kernel_rfl) (by kernel_rfl) (of_decide_eq_true (by kernel_rfl)) (fun x y h => ⟨100, (girdletop_WholePowers_eq 100 x.1 x.2.1).trans h⟩)

end Go.L

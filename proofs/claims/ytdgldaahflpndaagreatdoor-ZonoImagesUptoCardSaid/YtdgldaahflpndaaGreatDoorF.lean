/-
  The functions of the seat, each by its equation.
  No condition beyond those that each theorem names.
-/
import Derived.Test.YtdgldaahflpndaaGreatDoorW
import Derived.Test.YtdgldaahflpndaaGreatDoorB
import Derived.Test.YtdgldaahflpndaaGreatDoorE
import Derived.Test.YtdgldaahflpndaaGreatDoorProg

/-! LSeatZ -/
namespace Go.L
open Go.PM Go.Proofs
set_option linter.unusedVariables false
set_option maxRecDepth 100000
abbrev tI : Ty := (.pair .bool (.pair (.sl (.int .u32)) .unit))
abbrev tY : Ty := (.pair tI (.pair (.int .i64) .unit))
abbrev tS : Ty := (.pair tY (.pair tY .unit))
abbrev tR : Ty := (.pair tI (.pair (.sl (.int .u32)) .unit))
abbrev tE : Ty := (.pair (.int .i64) .unit)
abbrev lU : Ty := (.sl (.int .u32))
abbrev lY : Ty := (.sl tY)
abbrev lR : Ty := (.sl tR)
abbrev lS : Ty := (.sl tS)
abbrev tZ : Ty := (.pair lY (.pair (.sl lY) (.pair lY .unit)))
abbrev tV : Ty := (.pair lR (.pair (.sl lR) .unit))
abbrev dI := Bool × (List Int) × Unit
abbrev dY := dI × Int × Unit
abbrev dS := dY × dY × Unit
abbrev dR := dI × (List Int) × Unit
abbrev dZ := (List dY) × (List (List dY)) × (List dY) × Unit
abbrev dV := (List dR) × (List (List dR)) × Unit
abbrev Kt (r : Ty) := St → Option (Den r)
noncomputable def T : Nat → Option TRow := fun i => bif Nat.beq i 2 then some ⟨(.int .i64), .int .i64, 8⟩ else bif Nat.beq i 3 then some ⟨(.int .i64), .int .i64, 8⟩ else bif Nat.beq i 4 then some ⟨.bool, .bool, 1⟩ else bif Nat.beq i 5 then some ⟨(.int .u8), .int .u8, 1⟩ else bif Nat.beq i 9 then some ⟨.str, .str, 16⟩ else bif Nat.beq i 22 then some ⟨lR, .sl 46, 24⟩ else bif Nat.beq i 23 then some ⟨(.sl lR), .sl 22, 24⟩ else bif Nat.beq i 25 then some ⟨tV, .st [(0, 22), (1, 23)], 48⟩ else bif Nat.beq i 29 then some ⟨lY, .sl 49, 24⟩ else bif Nat.beq i 30 then some ⟨(.sl lY), .sl 29, 24⟩ else bif Nat.beq i 32 then some ⟨tZ, .st [(0, 29), (1, 30), (2, 29)], 72⟩ else bif Nat.beq i 33 then some ⟨(.int .i64), .int .i64, 8⟩ else bif Nat.beq i 36 then some ⟨lS, .sl 65, 24⟩ else bif Nat.beq i 42 then some ⟨lU, .sl 127, 24⟩ else bif Nat.beq i 44 then some ⟨tI, .st [(0, 4), (1, 42)], 32⟩ else bif Nat.beq i 46 then some ⟨tR, .st [(0, 44), (2, 42)], 56⟩ else bif Nat.beq i 49 then some ⟨tY, .st [(0, 44), (2, 3)], 40⟩ else bif Nat.beq i 53 then some ⟨lS, .sl 65, 24⟩ else bif Nat.beq i 65 then some ⟨tS, .st [(0, 49), (3, 49)], 80⟩ else bif Nat.beq i 81 then some ⟨(.pair lR (.pair lR .unit)), .arr 2 22, 48⟩ else bif Nat.beq i 82 then some ⟨(.sl lS), .sl 36, 24⟩ else bif Nat.beq i 118 then some ⟨(.pair lY (.pair lY .unit)), .arr 2 29, 48⟩ else bif Nat.beq i 127 then some ⟨(.int .u32), .int .u32, 4⟩ else bif Nat.beq i 129 then some ⟨(.int .u64), .int .u64, 8⟩ else bif Nat.beq i 145 then some ⟨tS, .arr 2 49, 80⟩ else bif Nat.beq i 146 then some ⟨(.pair tS (.pair tS (.pair tS (.pair tS .unit)))), .arr 4 145, 320⟩ else bif Nat.beq i 156 then some ⟨(.sl (.int .i64)), .sl 33, 24⟩ else none
theorem row2 : RowOK Tryz.prog 2 ⟨(.int .i64), .int .i64, 8⟩ := RowOK.of (by kernel_rfl) (by kernel_rfl) Tryz.underlying2 (by kernel_rfl)
theorem row3 : RowOK Tryz.prog 3 ⟨(.int .i64), .int .i64, 8⟩ := RowOK.of (by kernel_rfl) (by kernel_rfl) Tryz.underlying3 (by kernel_rfl)
theorem row4 : RowOK Tryz.prog 4 ⟨.bool, .bool, 1⟩ := RowOK.of (by kernel_rfl) (by kernel_rfl) Tryz.underlying4 (by kernel_rfl)
theorem row5 : RowOK Tryz.prog 5 ⟨(.int .u8), .int .u8, 1⟩ := RowOK.of (by kernel_rfl) (by kernel_rfl) Tryz.underlying5 (by kernel_rfl)
theorem row9 : RowOK Tryz.prog 9 ⟨.str, .str, 16⟩ := RowOK.of (by kernel_rfl) (by kernel_rfl) Tryz.underlying9 (by kernel_rfl)
theorem row22 : RowOK Tryz.prog 22 ⟨lR, .sl 46, 24⟩ := RowOK.of (by kernel_rfl) (by kernel_rfl) Tryz.underlying22 (by kernel_rfl)
theorem row23 : RowOK Tryz.prog 23 ⟨(.sl lR), .sl 22, 24⟩ := RowOK.of (by kernel_rfl) (by kernel_rfl) Tryz.underlying23 (by kernel_rfl)
theorem row25 : RowOK Tryz.prog 25 ⟨tV, .st [(0, 22), (1, 23)], 48⟩ := RowOK.of (by kernel_rfl) (by kernel_rfl) ⟨_, Tryz.underlying25, by kernel_rfl⟩ (by kernel_rfl)
theorem row29 : RowOK Tryz.prog 29 ⟨lY, .sl 49, 24⟩ := RowOK.of (by kernel_rfl) (by kernel_rfl) Tryz.underlying29 (by kernel_rfl)
theorem row30 : RowOK Tryz.prog 30 ⟨(.sl lY), .sl 29, 24⟩ := RowOK.of (by kernel_rfl) (by kernel_rfl) Tryz.underlying30 (by kernel_rfl)
theorem row32 : RowOK Tryz.prog 32 ⟨tZ, .st [(0, 29), (1, 30), (2, 29)], 72⟩ := RowOK.of (by kernel_rfl) (by kernel_rfl) ⟨_, Tryz.underlying32, by kernel_rfl⟩ (by kernel_rfl)
theorem row33 : RowOK Tryz.prog 33 ⟨(.int .i64), .int .i64, 8⟩ := RowOK.of (by kernel_rfl) (by kernel_rfl) Tryz.underlying33 (by kernel_rfl)
theorem row36 : RowOK Tryz.prog 36 ⟨lS, .sl 65, 24⟩ := RowOK.of (by kernel_rfl) (by kernel_rfl) Tryz.underlying36 (by kernel_rfl)
theorem row42 : RowOK Tryz.prog 42 ⟨lU, .sl 127, 24⟩ := RowOK.of (by kernel_rfl) (by kernel_rfl) Tryz.underlying42 (by kernel_rfl)
theorem row44 : RowOK Tryz.prog 44 ⟨tI, .st [(0, 4), (1, 42)], 32⟩ := RowOK.of (by kernel_rfl) (by kernel_rfl) ⟨_, Tryz.underlying44, by kernel_rfl⟩ (by kernel_rfl)
theorem row46 : RowOK Tryz.prog 46 ⟨tR, .st [(0, 44), (2, 42)], 56⟩ := RowOK.of (by kernel_rfl) (by kernel_rfl) ⟨_, Tryz.underlying46, by kernel_rfl⟩ (by kernel_rfl)
theorem row49 : RowOK Tryz.prog 49 ⟨tY, .st [(0, 44), (2, 3)], 40⟩ := RowOK.of (by kernel_rfl) (by kernel_rfl) ⟨_, Tryz.underlying49, by kernel_rfl⟩ (by kernel_rfl)
theorem row53 : RowOK Tryz.prog 53 ⟨lS, .sl 65, 24⟩ := RowOK.of (by kernel_rfl) (by kernel_rfl) Tryz.underlying53 (by kernel_rfl)
theorem row65 : RowOK Tryz.prog 65 ⟨tS, .st [(0, 49), (3, 49)], 80⟩ := RowOK.of (by kernel_rfl) (by kernel_rfl) ⟨_, Tryz.underlying65, by kernel_rfl⟩ (by kernel_rfl)
theorem row81 : RowOK Tryz.prog 81 ⟨(.pair lR (.pair lR .unit)), .arr 2 22, 48⟩ := RowOK.of (by kernel_rfl) (by kernel_rfl) Tryz.underlying81 (by kernel_rfl)
theorem row82 : RowOK Tryz.prog 82 ⟨(.sl lS), .sl 36, 24⟩ := RowOK.of (by kernel_rfl) (by kernel_rfl) Tryz.underlying82 (by kernel_rfl)
theorem row118 : RowOK Tryz.prog 118 ⟨(.pair lY (.pair lY .unit)), .arr 2 29, 48⟩ := RowOK.of (by kernel_rfl) (by kernel_rfl) Tryz.underlying118 (by kernel_rfl)
theorem row127 : RowOK Tryz.prog 127 ⟨(.int .u32), .int .u32, 4⟩ := RowOK.of (by kernel_rfl) (by kernel_rfl) Tryz.underlying127 (by kernel_rfl)
theorem row129 : RowOK Tryz.prog 129 ⟨(.int .u64), .int .u64, 8⟩ := RowOK.of (by kernel_rfl) (by kernel_rfl) Tryz.underlying129 (by kernel_rfl)
theorem row145 : RowOK Tryz.prog 145 ⟨tS, .arr 2 49, 80⟩ := RowOK.of (by kernel_rfl) (by kernel_rfl) Tryz.underlying145 (by kernel_rfl)
theorem row146 : RowOK Tryz.prog 146 ⟨(.pair tS (.pair tS (.pair tS (.pair tS .unit)))), .arr 4 145, 320⟩ := RowOK.of (by kernel_rfl) (by kernel_rfl) Tryz.underlying146 (by kernel_rfl)
theorem row156 : RowOK Tryz.prog 156 ⟨(.sl (.int .i64)), .sl 33, 24⟩ := RowOK.of (by kernel_rfl) (by kernel_rfl) Tryz.underlying156 (by kernel_rfl)
theorem T_ok : TypesOK Tryz.prog T := (types_cons row2 (types_cons row3 (types_cons row4 (types_cons row5 (types_cons row9 (types_cons row22 (types_cons row23 (types_cons row25 (types_cons row29 (types_cons row30 (types_cons row32 (types_cons row33 (types_cons row36 (types_cons row42 (types_cons row44 (types_cons row46 (types_cons row49 (types_cons row53 (types_cons row65 (types_cons row81 (types_cons row82 (types_cons row118 (types_cons row127 (types_cons row129 (types_cons row145 (types_cons row146 (types_cons row156 types_nil)))))))))))))))))))))))))))
theorem mixed : Tryz.prog.follows .mixedOrders = true := by kernel_rfl
noncomputable abbrev en_w16_ZonoImages : Entry := ⟨(.pair tV (.pair (.pair lR (.pair lR .unit)) tE)), (.pair .bool .unit), [], S.w16_ZonoImages, none⟩
noncomputable abbrev en_w16_spreads : Entry := ⟨.unit, (.pair .bool .unit), [], S.w16_spreads, none⟩
noncomputable abbrev en_w16_fit : Entry := ⟨(.pair tV tE), (.pair .bool .unit), [], S.w16_fit, none⟩
noncomputable abbrev en_w16_numbers : Entry := ⟨(.pair lR tE), (.pair .bool .unit), [], S.w16_numbers, none⟩
noncomputable abbrev en_zono_Of : Entry := ⟨(.pair tV tE), (.pair tZ tE), [], S.zono_Of, none⟩
noncomputable abbrev en_vec_Near : Entry := ⟨(.pair lR tE), (.pair lS tE), [], S.vec_Near, none⟩
noncomputable abbrev en_vec_Scale : Entry := ⟨(.pair lR (.pair tR .unit)), (.pair lR tE), [], S.vec_Scale, none⟩
noncomputable abbrev en_ratio_Of : Entry := ⟨(.pair (.int .i64) tE), (.pair tR .unit), [], S.ratio_Of, none⟩
noncomputable abbrev en_zono_Support : Entry := ⟨(.pair tZ (.pair lS tE)), (.pair tY tE), [], S.zono_Support, none⟩
noncomputable abbrev en_dyad_Add : Entry := ⟨tS, (.pair tY tE), [], S.dyad_Add, none⟩
noncomputable abbrev en_zono_Box : Entry := ⟨(.pair tZ tE), (.pair lS tE), [], S.zono_Box, none⟩
noncomputable abbrev en_dyad_Of : Entry := ⟨(.pair (.int .i64) tE), (.pair tY .unit), [], S.dyad_Of, none⟩
noncomputable abbrev en_dyad_Sign : Entry := ⟨(.pair tY .unit), tE, [], S.dyad_Sign, none⟩
noncomputable abbrev en_dyad_Less : Entry := ⟨tS, (.pair .bool .unit), [], S.dyad_Less, none⟩
noncomputable abbrev en_zono_Add : Entry := ⟨(.pair tZ (.pair tZ tE)), (.pair tZ tE), [], S.zono_Add, none⟩
noncomputable abbrev en_zono_Times : Entry := ⟨(.pair tZ (.pair tS tE)), (.pair tZ tE), [], S.zono_Times, none⟩
noncomputable abbrev en_span_Point : Entry := ⟨(.pair tY .unit), (.pair tS .unit), [], S.span_Point, none⟩
noncomputable abbrev en_zono_Wider : Entry := ⟨(.pair tZ (.pair tY tE)), (.pair tZ tE), [], S.zono_Wider, none⟩
noncomputable abbrev en_zono_Check : Entry := ⟨(.pair tZ tE), tE, [], S.zono_Check, none⟩
noncomputable abbrev en_w16_corner : Entry := ⟨(.pair tV tE), (.pair lR .unit), [], S.w16_corner, none⟩
noncomputable abbrev en_w16_within : Entry := ⟨(.pair tZ (.pair lR (.pair lR tE))), (.pair .bool .unit), [], S.w16_within, none⟩
noncomputable abbrev en_ratio_Add : Entry := ⟨(.pair tR (.pair tR .unit)), (.pair tR tE), [], S.ratio_Add, none⟩
noncomputable abbrev en_vec_Add : Entry := ⟨(.pair lR (.pair lR .unit)), (.pair lR tE), [], S.vec_Add, none⟩
noncomputable abbrev en_ratio_Compare : Entry := ⟨(.pair tR (.pair tR .unit)), (.pair (.int .i64) tE), [], S.ratio_Compare, none⟩
noncomputable abbrev en_ratio_Abs : Entry := ⟨(.pair tR .unit), (.pair tR .unit), [], S.ratio_Abs, none⟩
noncomputable abbrev en_ratio_Zero : Entry := ⟨.unit, (.pair tR .unit), [], S.ratio_Zero, none⟩
noncomputable abbrev en_vec_Dot : Entry := ⟨(.pair lR (.pair lR .unit)), (.pair tR tE), [], S.vec_Dot, none⟩
noncomputable abbrev en_dyad_Cmp : Entry := ⟨(.pair tY (.pair tR .unit)), (.pair (.int .i64) tE), [], S.dyad_Cmp, none⟩
noncomputable abbrev en_mat_Near : Entry := ⟨(.pair (.sl lR) tE), (.pair (.sl lS) tE), [], S.mat_Near, none⟩
noncomputable abbrev en_zono_Image : Entry := ⟨(.pair (.sl lS) (.pair tZ tE)), (.pair tZ tE), [], S.zono_Image, none⟩
noncomputable abbrev en_mat_Apply : Entry := ⟨(.pair (.sl lR) (.pair lR .unit)), (.pair lR tE), [], S.mat_Apply, none⟩
noncomputable abbrev en_zono_Reach : Entry := ⟨(.pair tZ tE), (.pair tY tE), [], S.zono_Reach, none⟩
noncomputable abbrev en_vec_Unit : Entry := ⟨(.pair (.int .i64) tE), (.pair lR .unit), [], S.vec_Unit, none⟩
noncomputable abbrev en_dyad_Compare : Entry := ⟨tS, tE, [], S.dyad_Compare, none⟩
noncomputable abbrev en_zono_Point : Entry := ⟨tE, (.pair tZ .unit), [], S.zono_Point, none⟩
noncomputable abbrev en_vec_Check : Entry := ⟨(.pair lR tE), tE, [], S.vec_Check, none⟩
noncomputable abbrev en_zono_list : Entry := ⟨(.pair lR tE), (.pair lY (.pair lY tE)), [none, some 49], S.zono_list, none⟩
noncomputable abbrev en_zono_wider : Entry := ⟨(.pair lY (.pair lY tE)), (.pair lY tE), [some 49], S.zono_wider, none⟩
noncomputable abbrev en_span_Near : Entry := ⟨(.pair tR tE), (.pair tS tE), [], S.span_Near, none⟩
noncomputable abbrev en_vec_each : Entry := ⟨(.pair lR (.pair lR (.pair (.fn (.pair tR (.pair tR .unit)) (.pair tR tE)) .unit))), (.pair lR tE), [], S.vec_each, none⟩
noncomputable abbrev en_vec_Scale_1 : Entry := ⟨(.pair tR (.pair tR (.pair (.ptr tR) .unit))), (.pair tR tE), [], S.vec_Scale_1, none⟩
noncomputable abbrev en_ratio_Mul : Entry := ⟨(.pair tR (.pair tR .unit)), (.pair tR tE), [], S.ratio_Mul, none⟩
noncomputable abbrev en_ratio_Make : Entry := ⟨(.pair tI (.pair tI .unit)), (.pair tR tE), [], S.ratio_Make, none⟩
noncomputable abbrev en_whole_Of : Entry := ⟨tE, (.pair tI .unit), [], S.whole_Of, none⟩
noncomputable abbrev en_vec_Inner : Entry := ⟨(.pair lS (.pair lS tE)), (.pair tS tE), [], S.vec_Inner, none⟩
noncomputable abbrev en_zono_points : Entry := ⟨(.pair lY .unit), (.pair lS .unit), [], S.zono_points, none⟩
noncomputable abbrev en_span_Add : Entry := ⟨(.pair tS (.pair tS tE)), (.pair tS tE), [], S.span_Add, none⟩
noncomputable abbrev en_span_Size : Entry := ⟨(.pair tS .unit), (.pair tY .unit), [], S.span_Size, none⟩
noncomputable abbrev en_span_Mul : Entry := ⟨(.pair tS (.pair tS tE)), (.pair tS tE), [], S.span_Mul, none⟩
noncomputable abbrev en_dyad_level : Entry := ⟨tS, (.pair tI (.pair tI (.pair (.int .i64) tE))), [], S.dyad_level, none⟩
noncomputable abbrev en_whole_Add : Entry := ⟨(.pair tI (.pair tI .unit)), tY, [], S.whole_Add, none⟩
noncomputable abbrev en_dyad_Make : Entry := ⟨tY, (.pair tY tE), [], S.dyad_Make, none⟩
noncomputable abbrev en_span_Even : Entry := ⟨(.pair tY .unit), (.pair tS .unit), [], S.span_Even, none⟩
noncomputable abbrev en_whole_Sign : Entry := ⟨(.pair tI .unit), tE, [], S.whole_Sign, none⟩
noncomputable abbrev en_vec_Plus : Entry := ⟨(.pair lS (.pair lS tE)), (.pair lS tE), [], S.vec_Plus, none⟩
noncomputable abbrev en_zono_middles : Entry := ⟨(.pair lS tE), (.pair lY (.pair lY tE)), [none, some 49], S.zono_middles, none⟩
noncomputable abbrev en_dyad_Abs : Entry := ⟨(.pair tY .unit), (.pair tY .unit), [], S.dyad_Abs, none⟩
noncomputable abbrev en_dyad_Check : Entry := ⟨(.pair tY .unit), tE, [], S.dyad_Check, none⟩
noncomputable abbrev en_model_Point : Entry := ⟨(.pair tV (.pair lR .unit)), (.pair lR tE), [], S.model_Point, none⟩
noncomputable abbrev en_whole_Mul : Entry := ⟨(.pair tI (.pair tI .unit)), tY, [], S.whole_Mul, none⟩
noncomputable abbrev en_ratio_den : Entry := ⟨(.pair tR .unit), (.pair tI .unit), [], S.ratio_den, none⟩
noncomputable abbrev en_ratio_first : Entry := ⟨(.pair (.sl (.int .i64)) .unit), tE, [], S.ratio_first, none⟩
noncomputable abbrev en_whole_Compare : Entry := ⟨(.pair tI (.pair tI .unit)), tE, [], S.whole_Compare, none⟩
noncomputable abbrev en_whole_Abs : Entry := ⟨(.pair tI .unit), (.pair tI .unit), [], S.whole_Abs, none⟩
noncomputable abbrev en_slices_Clone_api_Nat_uint32 : Entry := ⟨(.pair lU .unit), (.pair lU .unit), [none], S.slices_Clone_api_Nat_uint32, none⟩
noncomputable abbrev en_limbs_Of : Entry := ⟨(.pair (.int .u64) .unit), (.pair lU .unit), [], S.limbs_Of, none⟩
noncomputable abbrev en_ratio_Sum : Entry := ⟨(.pair lR .unit), (.pair tR tE), [], S.ratio_Sum, none⟩
noncomputable abbrev en_dyad_Ratio : Entry := ⟨(.pair tY .unit), (.pair tR tE), [], S.dyad_Ratio, none⟩
noncomputable abbrev en_zono_image : Entry := ⟨(.pair (.sl lS) (.pair lY tE)), (.pair lY (.pair lY tE)), [none, some 49], S.zono_image, none⟩
noncomputable abbrev en_vec_Norm : Entry := ⟨(.pair lS .unit), (.pair tY .unit), [], S.vec_Norm, none⟩
noncomputable abbrev en_vec_Zero : Entry := ⟨tE, (.pair lR .unit), [some 46], S.vec_Zero, none⟩
noncomputable abbrev en_dyad_top : Entry := ⟨(.pair tY .unit), tE, [], S.dyad_top, none⟩
noncomputable abbrev en_ratio_Check : Entry := ⟨(.pair tR .unit), tE, [], S.ratio_Check, none⟩
noncomputable abbrev en_dyad_Near : Entry := ⟨(.pair tR (.pair (.int .i64) (.pair .bool .unit))), (.pair tY tE), [], S.dyad_Near, none⟩
noncomputable abbrev en_digits_Gcd : Entry := ⟨(.pair lU (.pair lU .unit)), (.pair lU .unit), [], S.digits_Gcd, none⟩
noncomputable abbrev en_limbs_Div : Entry := ⟨(.pair lU (.pair lU .unit)), (.pair lU (.pair lU tE)), [], S.limbs_Div, none⟩
noncomputable abbrev en_whole_of : Entry := ⟨tI, (.pair tI .unit), [], S.whole_of, none⟩
noncomputable abbrev en_span_out : Entry := ⟨(.pair tY (.pair tY tE)), (.pair tS tE), [], S.span_out, none⟩
noncomputable abbrev en_dyad_Max : Entry := ⟨tS, (.pair tY .unit), [], S.dyad_Max, none⟩
noncomputable abbrev en_dyad_Mul : Entry := ⟨tS, (.pair tY tE), [], S.dyad_Mul, none⟩
noncomputable abbrev en_dyad_Min : Entry := ⟨tS, (.pair tY .unit), [], S.dyad_Min, none⟩
noncomputable abbrev en_whole_Left : Entry := ⟨tY, tY, [], S.whole_Left, none⟩
noncomputable abbrev en_limbs_Add : Entry := ⟨(.pair lU (.pair lU .unit)), (.pair lU tE), [], S.limbs_Add, none⟩
noncomputable abbrev en_limbs_Compare : Entry := ⟨(.pair lU (.pair lU .unit)), tE, [], S.limbs_Compare, none⟩
noncomputable abbrev en_limbs_Sub : Entry := ⟨(.pair lU (.pair lU .unit)), (.pair lU tE), [], S.limbs_Sub, none⟩
noncomputable abbrev en_limbs_Tail : Entry := ⟨(.pair lU .unit), tE, [], S.limbs_Tail, none⟩
noncomputable abbrev en_whole_Right : Entry := ⟨tY, tY, [], S.whole_Right, none⟩
noncomputable abbrev en_dyad_Neg : Entry := ⟨(.pair tY .unit), (.pair tY .unit), [], S.dyad_Neg, none⟩
noncomputable abbrev en_span_Middle : Entry := ⟨(.pair tS .unit), (.pair tY tE), [], S.span_Middle, none⟩
noncomputable abbrev en_dyad_Round : Entry := ⟨(.pair tY (.pair (.int .i64) (.pair .bool .unit))), (.pair tY tE), [], S.dyad_Round, none⟩
noncomputable abbrev en_span_Sub : Entry := ⟨(.pair tS (.pair tS tE)), (.pair tS tE), [], S.span_Sub, none⟩
noncomputable abbrev en_whole_Check : Entry := ⟨(.pair tI .unit), tE, [], S.whole_Check, none⟩
noncomputable abbrev en_limbs_Mul : Entry := ⟨(.pair lU (.pair lU .unit)), (.pair lU tE), [], S.limbs_Mul, none⟩
noncomputable abbrev en_whole_Nat : Entry := ⟨(.pair lU .unit), (.pair tI .unit), [], S.whole_Nat, none⟩
noncomputable abbrev en_limbs_trim : Entry := ⟨(.pair lU .unit), (.pair lU .unit), [], S.limbs_trim, none⟩
noncomputable abbrev en_ratio_Whole : Entry := ⟨(.pair tI .unit), (.pair tR .unit), [], S.ratio_Whole, none⟩
noncomputable abbrev en_limbs_Left : Entry := ⟨(.pair lU tE), (.pair lU tE), [], S.limbs_Left, none⟩
noncomputable abbrev en_limbs_Bits : Entry := ⟨(.pair lU .unit), tE, [], S.limbs_Bits, none⟩
noncomputable abbrev en_limbs_Check : Entry := ⟨(.pair lU .unit), tE, [], S.limbs_Check, none⟩
noncomputable abbrev en_ratio_Sign : Entry := ⟨(.pair tR .unit), tE, [], S.ratio_Sign, none⟩
noncomputable abbrev en_whole_Div : Entry := ⟨(.pair tI (.pair tI .unit)), (.pair tI tY), [], S.whole_Div, none⟩
noncomputable abbrev en_limbs_short : Entry := ⟨(.pair lU (.pair (.int .u32) .unit)), (.pair lU (.pair (.int .u32) .unit)), [], S.limbs_short, none⟩
noncomputable abbrev en_limbs_long : Entry := ⟨(.pair lU (.pair lU .unit)), (.pair lU (.pair lU .unit)), [], S.limbs_long, none⟩
noncomputable abbrev en_dyad_own : Entry := ⟨(.pair tY .unit), (.pair tY .unit), [], S.dyad_own, none⟩
noncomputable abbrev en_limbs_fits : Entry := ⟨(.pair lU .unit), (.pair lU tE), [], S.limbs_fits, none⟩
noncomputable abbrev en_bits_TrailingZeros32 : Entry := ⟨(.pair (.int .u32) .unit), tE, [], S.bits_TrailingZeros32, none⟩
noncomputable abbrev en_limbs_Right : Entry := ⟨(.pair lU tE), (.pair lU tE), [], S.limbs_Right, none⟩
noncomputable abbrev en_whole_Neg : Entry := ⟨(.pair tI .unit), (.pair tI .unit), [], S.whole_Neg, none⟩
noncomputable abbrev en_span_Neg : Entry := ⟨(.pair tS .unit), (.pair tS .unit), [], S.span_Neg, none⟩
noncomputable abbrev en_bits_Len32 : Entry := ⟨(.pair (.int .u32) .unit), tE, [], S.bits_Len32, none⟩
noncomputable abbrev en_bits_LeadingZeros32 : Entry := ⟨(.pair (.int .u32) .unit), tE, [], S.bits_LeadingZeros32, none⟩
noncomputable abbrev en_limbs_moved : Entry := ⟨(.pair lU tE), (.pair lU .unit), [some 127], S.limbs_moved, none⟩
noncomputable abbrev en_limbs_less : Entry := ⟨(.pair lU (.pair (.int .i64) (.pair (.int .i64) (.pair lU (.pair (.int .u64) .unit))))), (.pair lU (.pair .bool .unit)), [], S.limbs_less, some 127⟩
noncomputable abbrev en_limbs_back : Entry := ⟨(.pair lU (.pair (.int .i64) (.pair (.int .i64) (.pair lU .unit)))), (.pair lU .unit), [], S.limbs_back, some 127⟩
noncomputable abbrev en_zono_wider_w : Entry := ⟨(.pair lY (.pair (.int .i64) (.pair (.int .i64) (.pair lY tE)))), (.pair lY (.pair lY tE)), [some 49], S.zono_wider_w, some 49⟩
noncomputable def Γ_limbs_trim : Env := { T := T, Φ := fun i => none, ann := fun i => bif Nat.beq i 2 then [(0, .c (.data (.int .u32))), (3, .c .sc)] else [] }
noncomputable def limbs_trim_c : Code := (Tryz.f107.body).getD .skip
noncomputable def limbs_trim_fin := finish Γ_limbs_trim Tryz.f107.results.toList (.pair lU .unit) []
noncomputable def limbs_trim_k0 (κ : Kt (.pair lU .unit)) (a : List Int) (b : Int) := κ { t := (upd (upd (fun _ => .undef) 0 (.one (.sl (.int .u32) a))) 3 (.one (.int .i64 b))), m := (upd (fun _ => .free) 0 .held), nx := 1000000, n := 22 }
noncomputable def limbs_trim_A0 (K : Nat) := loopAt Γ_limbs_trim K [.r, .r, .l, .b] limbs_trim_c [] limbs_trim_fin (fun _ _ => none) limbs_trim_fin
theorem limbs_trim_loop0 (K : Nat) : ∀ n, limbs_trim_k0 (limbs_trim_A0 K n) = limbs_trim_l0 K n
  | 0 => by kernel_rfl
  | n + 1 => Eq.trans (b := limbs_trim_s0 (limbs_trim_k0 (limbs_trim_A0 K n))) (by kernel_rfl) (by rw [limbs_trim_loop0 K n]; rfl)
theorem limbs_trim_eq (K : Nat) (a : List Int) : exF Γ_limbs_trim K Tryz.f107 (.pair lU .unit) (.pair lU .unit) [] (a, ()) = limbs_trim K a :=
  Eq.trans (b := limbs_trim_b (limbs_trim_k0 (limbs_trim_A0 K K)) a) (by kernel_rfl) (by rw [limbs_trim_loop0 K K]; rfl)
theorem env_limbs_trim : EnvOK Tryz.prog G Γ_limbs_trim := ⟨T_ok, (phi_nil : PhiOK Tryz.prog G Γ_limbs_trim.Φ), fun _ _ h => (by cases h), mixed⟩
theorem fn_limbs_trim : FnOK Tryz.prog G 107 en_limbs_trim := FnOK.of env_limbs_trim Tryz.func107 (by kernel_rfl) (by kernel_rfl) (of_decide_eq_true (by kernel_rfl)) (fun x y h => by obtain ⟨K, hK⟩ := limbs_trim_ok x y h; exact ⟨K, (limbs_trim_eq K x.1).trans hK⟩)

noncomputable def Γ_limbs_Of : Env := { T := T, Φ := fun i => bif Nat.beq i 107 then some en_limbs_trim else none, ann := fun i => [] }
theorem limbs_Of_eq (K : Nat) (n : Int) : exF Γ_limbs_Of K Tryz.f76 (.pair (.int .u64) .unit) (.pair lU .unit) [] (n, ()) = limbs_Of n := by kernel_rfl
theorem env_limbs_Of : EnvOK Tryz.prog G Γ_limbs_Of := ⟨T_ok, ((phi_cons fn_limbs_trim phi_nil) : PhiOK Tryz.prog G Γ_limbs_Of.Φ), fun _ _ h => (by cases h), mixed⟩
theorem fn_limbs_Of : FnOK Tryz.prog G 76 en_limbs_Of := FnOK.of env_limbs_Of Tryz.func76 (by kernel_rfl) (by kernel_rfl) (of_decide_eq_true (by kernel_rfl)) (fun x y h => ⟨0, (limbs_Of_eq 0 x.1).trans h⟩)

noncomputable def Γ_whole_of : Env := { T := T, Φ := fun i => none, ann := fun i => [] }
theorem whole_of_eq (K : Nat) (minus : Bool) (size : List Int) : exF Γ_whole_of K Tryz.f89 tI (.pair tI .unit) [] (minus, size, ()) = whole_of minus size := by kernel_rfl
theorem env_whole_of : EnvOK Tryz.prog G Γ_whole_of := ⟨T_ok, (phi_nil : PhiOK Tryz.prog G Γ_whole_of.Φ), fun _ _ h => (by cases h), mixed⟩
theorem fn_whole_of : FnOK Tryz.prog G 89 en_whole_of := FnOK.of env_whole_of Tryz.func89 (by kernel_rfl) (by kernel_rfl) (of_decide_eq_true (by kernel_rfl)) (fun x y h => ⟨0, (whole_of_eq 0 x.1 x.2.1).trans h⟩)

noncomputable def Γ_whole_Of : Env := { T := T, Φ := fun i => bif Nat.beq i 76 then some en_limbs_Of else bif Nat.beq i 89 then some en_whole_of else none, ann := fun i => [] }
theorem whole_Of_eq (K : Nat) (n : Int) : exF Γ_whole_Of K Tryz.f54 tE (.pair tI .unit) [] (n, ()) = whole_Of n := by kernel_rfl
theorem env_whole_Of : EnvOK Tryz.prog G Γ_whole_Of := ⟨T_ok, ((phi_cons fn_limbs_Of (phi_cons fn_whole_of phi_nil)) : PhiOK Tryz.prog G Γ_whole_Of.Φ), fun _ _ h => (by cases h), mixed⟩
theorem fn_whole_Of : FnOK Tryz.prog G 54 en_whole_Of := FnOK.of env_whole_Of Tryz.func54 (by kernel_rfl) (by kernel_rfl) (of_decide_eq_true (by kernel_rfl)) (fun x y h => ⟨0, (whole_Of_eq 0 x.1).trans h⟩)

noncomputable def Γ_limbs_fits : Env := { T := T, Φ := fun i => bif Nat.beq i 107 then some en_limbs_trim else none, ann := fun i => [] }
theorem limbs_fits_eq (K : Nat) (a : List Int) : exF Γ_limbs_fits K Tryz.f118 (.pair lU .unit) (.pair lU tE) [] (a, ()) = limbs_fits a := by kernel_rfl
theorem env_limbs_fits : EnvOK Tryz.prog G Γ_limbs_fits := ⟨T_ok, ((phi_cons fn_limbs_trim phi_nil) : PhiOK Tryz.prog G Γ_limbs_fits.Φ), fun _ _ h => (by cases h), mixed⟩
theorem fn_limbs_fits : FnOK Tryz.prog G 118 en_limbs_fits := FnOK.of env_limbs_fits Tryz.func118 (by kernel_rfl) (by kernel_rfl) (of_decide_eq_true (by kernel_rfl)) (fun x y h => ⟨0, (limbs_fits_eq 0 x.1).trans h⟩)

noncomputable def Γ_limbs_Add : Env := { T := T, Φ := fun i => bif Nat.beq i 118 then some en_limbs_fits else none, ann := fun i => bif Nat.beq i 6 then [(0, .c (.data (.int .u32))), (1, .c (.data (.int .u32))), (6, .c (.own 100 127 (.int .u32))), (7, .c .sc), (21, .c (.data (.int .u32))), (22, .c .sc), (23, .c .sc)] else [] }
noncomputable def limbs_Add_c : Code := (Tryz.f95.body).getD .skip
noncomputable def limbs_Add_fin := finish Γ_limbs_Add Tryz.f95.results.toList (.pair lU tE) []
noncomputable def limbs_Add_k0 (κ : Kt (.pair lU tE)) (a b c : List Int) (d : Int) (e : List Int) (f g : Int) := κ { t := (upd (upd (upd (upd (upd (upd (upd (fun _ => .undef) 0 (.one (.sl (.int .u32) a))) 1 (.one (.sl (.int .u32) b))) 6 (.one (.own 100))) 7 (.one (.int .u64 d))) 21 (.one (.sl (.int .u32) e))) 22 (.one (.int .i64 f))) 23 (.one (.int .i64 g))), m := (upd (upd (fun _ => .free) 0 .held) 100 (.row true 127 (.int .u32) c)), nx := 1000000, n := 61 }
noncomputable def limbs_Add_A0 (K : Nat) := loopAt Γ_limbs_Add K [.r, .r, .r, .r, .l, .r, .b] limbs_Add_c [] limbs_Add_fin (fun _ _ => none) limbs_Add_fin
theorem limbs_Add_loop0 (K : Nat) : ∀ n, limbs_Add_k0 (limbs_Add_A0 K n) = limbs_Add_l0 K n
  | 0 => by kernel_rfl
  | n + 1 => Eq.trans (b := limbs_Add_s0 (limbs_Add_k0 (limbs_Add_A0 K n))) (by kernel_rfl) (by rw [limbs_Add_loop0 K n]; rfl)
theorem limbs_Add_eq (K : Nat) (a : List Int) (b : List Int) : exF Γ_limbs_Add K Tryz.f95 (.pair lU (.pair lU .unit)) (.pair lU tE) [] (a, b, ()) = limbs_Add K a b :=
  Eq.trans (b := limbs_Add_b (limbs_Add_k0 (limbs_Add_A0 K K)) a b) (by kernel_rfl) (by rw [limbs_Add_loop0 K K]; rfl)
theorem env_limbs_Add : EnvOK Tryz.prog G Γ_limbs_Add := ⟨T_ok, ((phi_cons fn_limbs_fits phi_nil) : PhiOK Tryz.prog G Γ_limbs_Add.Φ), fun _ _ h => (by cases h), mixed⟩
theorem fn_limbs_Add : FnOK Tryz.prog G 95 en_limbs_Add := FnOK.of env_limbs_Add Tryz.func95 (by kernel_rfl) (by kernel_rfl) (of_decide_eq_true (by kernel_rfl)) (fun x y h => by obtain ⟨K, hK⟩ := limbs_Add_ok x y h; exact ⟨K, (limbs_Add_eq K x.1 x.2.1).trans hK⟩)

noncomputable def Γ_limbs_Sub : Env := { T := T, Φ := fun i => bif Nat.beq i 96 then some en_limbs_Compare else bif Nat.beq i 118 then some en_limbs_fits else none, ann := fun i => bif Nat.beq i 6 then [(1, .c (.data (.int .u32))), (6, .c (.own 100 127 (.int .u32))), (7, .c .sc), (19, .c (.data (.int .u32))), (20, .c .sc), (21, .c .sc)] else [] }
noncomputable def limbs_Sub_c : Code := (Tryz.f97.body).getD .skip
noncomputable def limbs_Sub_fin := finish Γ_limbs_Sub Tryz.f97.results.toList (.pair lU tE) []
noncomputable def limbs_Sub_k0 (κ : Kt (.pair lU tE)) (a b : List Int) (c : Int) (d : List Int) (e f : Int) := κ { t := (upd (upd (upd (upd (upd (upd (fun _ => .undef) 1 (.one (.sl (.int .u32) a))) 6 (.one (.own 100))) 7 (.one (.int .u64 c))) 19 (.one (.sl (.int .u32) d))) 20 (.one (.int .i64 e))) 21 (.one (.int .i64 f))), m := (upd (upd (fun _ => .free) 0 .held) 100 (.row true 127 (.int .u32) b)), nx := 1000000, n := 54 }
noncomputable def limbs_Sub_A0 (K : Nat) := loopAt Γ_limbs_Sub K [.r, .r, .r, .r, .l, .r, .b] limbs_Sub_c [] limbs_Sub_fin (fun _ _ => none) limbs_Sub_fin
theorem limbs_Sub_loop0 (K : Nat) : ∀ n, limbs_Sub_k0 (limbs_Sub_A0 K n) = limbs_Sub_l0 K n
  | 0 => by kernel_rfl
  | n + 1 => Eq.trans (b := limbs_Sub_s0 (limbs_Sub_k0 (limbs_Sub_A0 K n))) (by kernel_rfl) (by rw [limbs_Sub_loop0 K n]; rfl)
theorem limbs_Sub_eq (K : Nat) (a : List Int) (b : List Int) : exF Γ_limbs_Sub K Tryz.f97 (.pair lU (.pair lU .unit)) (.pair lU tE) [] (a, b, ()) = limbs_Sub K a b :=
  Eq.trans (b := limbs_Sub_b (limbs_Sub_k0 (limbs_Sub_A0 K K)) a b) (by kernel_rfl) (by rw [limbs_Sub_loop0 K K]; rfl)
theorem env_limbs_Sub : EnvOK Tryz.prog G Γ_limbs_Sub := ⟨T_ok, ((phi_cons fn_limbs_Compare (phi_cons fn_limbs_fits phi_nil)) : PhiOK Tryz.prog G Γ_limbs_Sub.Φ), fun _ _ h => (by cases h), mixed⟩
theorem fn_limbs_Sub : FnOK Tryz.prog G 97 en_limbs_Sub := FnOK.of env_limbs_Sub Tryz.func97 (by kernel_rfl) (by kernel_rfl) (of_decide_eq_true (by kernel_rfl)) (fun x y h => by obtain ⟨K, hK⟩ := limbs_Sub_ok x y h; exact ⟨K, (limbs_Sub_eq K x.1 x.2.1).trans hK⟩)

noncomputable def Γ_whole_Add : Env := { T := T, Φ := fun i => bif Nat.beq i 89 then some en_whole_of else bif Nat.beq i 95 then some en_limbs_Add else bif Nat.beq i 96 then some en_limbs_Compare else bif Nat.beq i 97 then some en_limbs_Sub else none, ann := fun i => [] }
theorem whole_Add_eq (K : Nat) (a : dI) (b : dI) : exF Γ_whole_Add K Tryz.f61 (.pair tI (.pair tI .unit)) tY [] (a, b, ()) = whole_Add a b := by kernel_rfl
theorem env_whole_Add : EnvOK Tryz.prog G Γ_whole_Add := ⟨T_ok, ((phi_cons fn_whole_of (phi_cons fn_limbs_Add (phi_cons fn_limbs_Compare (phi_cons fn_limbs_Sub phi_nil)))) : PhiOK Tryz.prog G Γ_whole_Add.Φ), fun _ _ h => (by cases h), mixed⟩
theorem fn_whole_Add : FnOK Tryz.prog G 61 en_whole_Add := FnOK.of env_whole_Add Tryz.func61 (by kernel_rfl) (by kernel_rfl) (of_decide_eq_true (by kernel_rfl)) (fun x y h => ⟨0, (whole_Add_eq 0 x.1 x.2.1).trans h⟩)

noncomputable def Γ_whole_Sign : Env := { T := T, Φ := fun i => none, ann := fun i => [] }
theorem whole_Sign_eq (K : Nat) (a : dI) : exF Γ_whole_Sign K Tryz.f64 (.pair tI .unit) tE [] (a, ()) = whole_Sign a := by kernel_rfl
theorem env_whole_Sign : EnvOK Tryz.prog G Γ_whole_Sign := ⟨T_ok, (phi_nil : PhiOK Tryz.prog G Γ_whole_Sign.Φ), fun _ _ h => (by cases h), mixed⟩
theorem fn_whole_Sign : FnOK Tryz.prog G 64 en_whole_Sign := FnOK.of env_whole_Sign Tryz.func64 (by kernel_rfl) (by kernel_rfl) (of_decide_eq_true (by kernel_rfl)) (fun x y h => ⟨0, (whole_Sign_eq 0 x.1).trans h⟩)

noncomputable def Γ_limbs_Tail : Env := { T := T, Φ := fun i => bif Nat.beq i 120 then some en_bits_TrailingZeros32 else none, ann := fun i => bif Nat.beq i 2 then [(5, .c (.data (.int .u32))), (6, .c .sc), (7, .c .sc)] else [] }
noncomputable def limbs_Tail_c : Code := (Tryz.f98.body).getD .skip
noncomputable def limbs_Tail_fin := finish Γ_limbs_Tail Tryz.f98.results.toList tE []
noncomputable def limbs_Tail_k0 (κ : Kt tE) (a : List Int) (b c : Int) := κ { t := (upd (upd (upd (fun _ => .undef) 5 (.one (.sl (.int .u32) a))) 6 (.one (.int .i64 b))) 7 (.one (.int .i64 c))), m := (upd (fun _ => .free) 0 .held), nx := 1000000, n := 20 }
noncomputable def limbs_Tail_A0 (K : Nat) := loopAt Γ_limbs_Tail K [.r, .l, .r, .b] limbs_Tail_c [] limbs_Tail_fin (fun _ _ => none) limbs_Tail_fin
theorem limbs_Tail_loop0 (K : Nat) : ∀ n, limbs_Tail_k0 (limbs_Tail_A0 K n) = limbs_Tail_l0 K n
  | 0 => by kernel_rfl
  | n + 1 => Eq.trans (b := limbs_Tail_s0 (limbs_Tail_k0 (limbs_Tail_A0 K n))) (by kernel_rfl) (by rw [limbs_Tail_loop0 K n]; rfl)
theorem limbs_Tail_eq (K : Nat) (a : List Int) : exF Γ_limbs_Tail K Tryz.f98 (.pair lU .unit) tE [] (a, ()) = limbs_Tail K a :=
  Eq.trans (b := limbs_Tail_b (limbs_Tail_k0 (limbs_Tail_A0 K K)) a) (by kernel_rfl) (by rw [limbs_Tail_loop0 K K]; rfl)
theorem env_limbs_Tail : EnvOK Tryz.prog G Γ_limbs_Tail := ⟨T_ok, ((phi_cons fn_bits_TrailingZeros32 phi_nil) : PhiOK Tryz.prog G Γ_limbs_Tail.Φ), fun _ _ h => (by cases h), mixed⟩
theorem fn_limbs_Tail : FnOK Tryz.prog G 98 en_limbs_Tail := FnOK.of env_limbs_Tail Tryz.func98 (by kernel_rfl) (by kernel_rfl) (of_decide_eq_true (by kernel_rfl)) (fun x y h => by obtain ⟨K, hK⟩ := limbs_Tail_ok x y h; exact ⟨K, (limbs_Tail_eq K x.1).trans hK⟩)

noncomputable def Γ_limbs_Right : Env := { T := T, Φ := fun i => bif Nat.beq i 118 then some en_limbs_fits else none, ann := fun i => bif Nat.beq i 7 then [(0, .c (.data (.int .u32))), (1, .c .sc), (6, .c (.own 100 127 (.int .u32))), (23, .c .sc), (24, .c .sc)] else [] }
noncomputable def limbs_Right_c : Code := (Tryz.f121.body).getD .skip
noncomputable def limbs_Right_fin := finish Γ_limbs_Right Tryz.f121.results.toList (.pair lU tE) []
noncomputable def limbs_Right_k0 (κ : Kt (.pair lU tE)) (a : List Int) (b : Int) (c : List Int) (d e : Int) := κ { t := (upd (upd (upd (upd (upd (fun _ => .undef) 0 (.one (.sl (.int .u32) a))) 1 (.one (.int .i64 b))) 6 (.one (.own 100))) 23 (.one (.int .i64 d))) 24 (.one (.int .i64 e))), m := (upd (upd (fun _ => .free) 0 .held) 100 (.row true 127 (.int .u32) c)), nx := 1000000, n := 68 }
noncomputable def limbs_Right_A0 (K : Nat) := loopAt Γ_limbs_Right K [.r, .r, .r, .r, .l, .r, .b] limbs_Right_c [] limbs_Right_fin (fun _ _ => none) limbs_Right_fin
theorem limbs_Right_loop0 (K : Nat) : ∀ n, limbs_Right_k0 (limbs_Right_A0 K n) = limbs_Right_l0 K n
  | 0 => by kernel_rfl
  | n + 1 => Eq.trans (b := limbs_Right_s0 (limbs_Right_k0 (limbs_Right_A0 K n))) (by kernel_rfl) (by rw [limbs_Right_loop0 K n]; rfl)
theorem limbs_Right_eq (K : Nat) (a : List Int) (n : Int) : exF Γ_limbs_Right K Tryz.f121 (.pair lU tE) (.pair lU tE) [] (a, n, ()) = limbs_Right K a n :=
  Eq.trans (b := limbs_Right_b (limbs_Right_k0 (limbs_Right_A0 K K)) a n) (by kernel_rfl) (by rw [limbs_Right_loop0 K K]; rfl)
theorem env_limbs_Right : EnvOK Tryz.prog G Γ_limbs_Right := ⟨T_ok, ((phi_cons fn_limbs_fits phi_nil) : PhiOK Tryz.prog G Γ_limbs_Right.Φ), fun _ _ h => (by cases h), mixed⟩
theorem fn_limbs_Right : FnOK Tryz.prog G 121 en_limbs_Right := FnOK.of env_limbs_Right Tryz.func121 (by kernel_rfl) (by kernel_rfl) (of_decide_eq_true (by kernel_rfl)) (fun x y h => by obtain ⟨K, hK⟩ := limbs_Right_ok x y h; exact ⟨K, (limbs_Right_eq K x.1 x.2.1).trans hK⟩)

noncomputable def Γ_whole_Right : Env := { T := T, Φ := fun i => bif Nat.beq i 76 then some en_limbs_Of else bif Nat.beq i 89 then some en_whole_of else bif Nat.beq i 95 then some en_limbs_Add else bif Nat.beq i 98 then some en_limbs_Tail else bif Nat.beq i 121 then some en_limbs_Right else none, ann := fun i => [] }
theorem whole_Right_eq (K : Nat) (a : dI) (n : Int) : exF Γ_whole_Right K Tryz.f99 tY tY [] (a, n, ()) = whole_Right a n := by kernel_rfl
theorem env_whole_Right : EnvOK Tryz.prog G Γ_whole_Right := ⟨T_ok, ((phi_cons fn_limbs_Of (phi_cons fn_whole_of (phi_cons fn_limbs_Add (phi_cons fn_limbs_Tail (phi_cons fn_limbs_Right phi_nil))))) : PhiOK Tryz.prog G Γ_whole_Right.Φ), fun _ _ h => (by cases h), mixed⟩
theorem fn_whole_Right : FnOK Tryz.prog G 99 en_whole_Right := FnOK.of env_whole_Right Tryz.func99 (by kernel_rfl) (by kernel_rfl) (of_decide_eq_true (by kernel_rfl)) (fun x y h => ⟨0, (whole_Right_eq 0 x.1 x.2.1).trans h⟩)

noncomputable def Γ_dyad_Make : Env := { T := T, Φ := fun i => bif Nat.beq i 64 then some en_whole_Sign else bif Nat.beq i 98 then some en_limbs_Tail else bif Nat.beq i 99 then some en_whole_Right else none, ann := fun i => [] }
theorem dyad_Make_eq (K : Nat) (man : dI) (exp : Int) : exF Γ_dyad_Make K Tryz.f62 tY (.pair tY tE) [] (man, exp, ()) = dyad_Make man exp := by kernel_rfl
theorem env_dyad_Make : EnvOK Tryz.prog G Γ_dyad_Make := ⟨T_ok, ((phi_cons fn_whole_Sign (phi_cons fn_limbs_Tail (phi_cons fn_whole_Right phi_nil))) : PhiOK Tryz.prog G Γ_dyad_Make.Φ), fun _ _ h => (by cases h), mixed⟩
theorem fn_dyad_Make : FnOK Tryz.prog G 62 en_dyad_Make := FnOK.of env_dyad_Make Tryz.func62 (by kernel_rfl) (by kernel_rfl) (of_decide_eq_true (by kernel_rfl)) (fun x y h => ⟨0, (dyad_Make_eq 0 x.1 x.2.1).trans h⟩)

noncomputable def Γ_limbs_Left : Env := { T := T, Φ := fun i => bif Nat.beq i 118 then some en_limbs_fits else none, ann := fun i => bif Nat.beq i 9 then [(1, .c .sc), (6, .c (.own 100 127 (.int .u32))), (27, .c (.data (.int .u32))), (28, .c .sc), (29, .c .sc)] else [] }
noncomputable def limbs_Left_c : Code := (Tryz.f109.body).getD .skip
noncomputable def limbs_Left_fin := finish Γ_limbs_Left Tryz.f109.results.toList (.pair lU tE) []
noncomputable def limbs_Left_k0 (κ : Kt (.pair lU tE)) (a : Int) (b c : List Int) (d e : Int) := κ { t := (upd (upd (upd (upd (upd (fun _ => .undef) 1 (.one (.int .i64 a))) 6 (.one (.own 100))) 27 (.one (.sl (.int .u32) c))) 28 (.one (.int .i64 d))) 29 (.one (.int .i64 e))), m := (upd (upd (fun _ => .free) 0 .held) 100 (.row true 127 (.int .u32) b)), nx := 1000000, n := 65 }
noncomputable def limbs_Left_A0 (K : Nat) := loopAt Γ_limbs_Left K [.r, .r, .r, .l, .r, .b] limbs_Left_c [] limbs_Left_fin (fun _ _ => none) limbs_Left_fin
theorem limbs_Left_loop0 (K : Nat) : ∀ n, limbs_Left_k0 (limbs_Left_A0 K n) = limbs_Left_l0 K n
  | 0 => by kernel_rfl
  | n + 1 => Eq.trans (b := limbs_Left_s0 (limbs_Left_k0 (limbs_Left_A0 K n))) (by kernel_rfl) (by rw [limbs_Left_loop0 K n]; rfl)
theorem limbs_Left_eq (K : Nat) (a : List Int) (n : Int) : exF Γ_limbs_Left K Tryz.f109 (.pair lU tE) (.pair lU tE) [] (a, n, ()) = limbs_Left K a n :=
  Eq.trans (b := limbs_Left_b (limbs_Left_k0 (limbs_Left_A0 K K)) a n) (by kernel_rfl) (by rw [limbs_Left_loop0 K K]; rfl)
theorem env_limbs_Left : EnvOK Tryz.prog G Γ_limbs_Left := ⟨T_ok, ((phi_cons fn_limbs_fits phi_nil) : PhiOK Tryz.prog G Γ_limbs_Left.Φ), fun _ _ h => (by cases h), mixed⟩
theorem fn_limbs_Left : FnOK Tryz.prog G 109 en_limbs_Left := FnOK.of env_limbs_Left Tryz.func109 (by kernel_rfl) (by kernel_rfl) (of_decide_eq_true (by kernel_rfl)) (fun x y h => by obtain ⟨K, hK⟩ := limbs_Left_ok x y h; exact ⟨K, (limbs_Left_eq K x.1 x.2.1).trans hK⟩)

noncomputable def Γ_whole_Left : Env := { T := T, Φ := fun i => bif Nat.beq i 89 then some en_whole_of else bif Nat.beq i 109 then some en_limbs_Left else none, ann := fun i => [] }
theorem whole_Left_eq (K : Nat) (a : dI) (n : Int) : exF Γ_whole_Left K Tryz.f94 tY tY [] (a, n, ()) = whole_Left a n := by kernel_rfl
theorem env_whole_Left : EnvOK Tryz.prog G Γ_whole_Left := ⟨T_ok, ((phi_cons fn_whole_of (phi_cons fn_limbs_Left phi_nil)) : PhiOK Tryz.prog G Γ_whole_Left.Φ), fun _ _ h => (by cases h), mixed⟩
theorem fn_whole_Left : FnOK Tryz.prog G 94 en_whole_Left := FnOK.of env_whole_Left Tryz.func94 (by kernel_rfl) (by kernel_rfl) (of_decide_eq_true (by kernel_rfl)) (fun x y h => ⟨0, (whole_Left_eq 0 x.1 x.2.1).trans h⟩)

noncomputable def Γ_bits_Len32 : Env := { T := T, Φ := fun i => none, ann := fun i => [] }
theorem bits_Len32_eq (K : Nat) (x : Int) : exF Γ_bits_Len32 K Tryz.f124 (.pair (.int .u32) .unit) tE [] (x, ()) = bits_Len32 x := by kernel_rfl
theorem env_bits_Len32 : EnvOK Tryz.prog G Γ_bits_Len32 := ⟨T_ok, (phi_nil : PhiOK Tryz.prog G Γ_bits_Len32.Φ), fun _ _ h => (by cases h), mixed⟩
theorem fn_bits_Len32 : FnOK Tryz.prog G 124 en_bits_Len32 := FnOK.of env_bits_Len32 Tryz.func124 (by kernel_rfl) (by kernel_rfl) (of_decide_eq_true (by kernel_rfl)) (fun x y h => ⟨0, (bits_Len32_eq 0 x.1).trans h⟩)

noncomputable def Γ_limbs_Bits : Env := { T := T, Φ := fun i => bif Nat.beq i 124 then some en_bits_Len32 else none, ann := fun i => [] }
theorem limbs_Bits_eq (K : Nat) (a : List Int) : exF Γ_limbs_Bits K Tryz.f111 (.pair lU .unit) tE [] (a, ()) = limbs_Bits a := by kernel_rfl
theorem env_limbs_Bits : EnvOK Tryz.prog G Γ_limbs_Bits := ⟨T_ok, ((phi_cons fn_bits_Len32 phi_nil) : PhiOK Tryz.prog G Γ_limbs_Bits.Φ), fun _ _ h => (by cases h), mixed⟩
theorem fn_limbs_Bits : FnOK Tryz.prog G 111 en_limbs_Bits := FnOK.of env_limbs_Bits Tryz.func111 (by kernel_rfl) (by kernel_rfl) (of_decide_eq_true (by kernel_rfl)) (fun x y h => ⟨0, (limbs_Bits_eq 0 x.1).trans h⟩)

noncomputable def Γ_whole_Neg : Env := { T := T, Φ := fun i => bif Nat.beq i 75 then some en_slices_Clone_api_Nat_uint32 else bif Nat.beq i 89 then some en_whole_of else none, ann := fun i => [], ord := fun i => bif Nat.beq i 1 then [0, 1, 2, 3, 4, 5, 6, 7] else [] }
theorem whole_Neg_eq (K : Nat) (a : dI) : exF Γ_whole_Neg K Tryz.f122 (.pair tI .unit) (.pair tI .unit) [] (a, ()) = whole_Neg a := by kernel_rfl
theorem env_whole_Neg : EnvOK Tryz.prog G Γ_whole_Neg := ⟨T_ok, ((phi_cons fn_slices_Clone_api_Nat_uint32 (phi_cons fn_whole_of phi_nil)) : PhiOK Tryz.prog G Γ_whole_Neg.Φ), fun _ _ h => (by cases h), mixed⟩
theorem fn_whole_Neg : FnOK Tryz.prog G 122 en_whole_Neg := FnOK.of env_whole_Neg Tryz.func122 (by kernel_rfl) (by kernel_rfl) (of_decide_eq_true (by kernel_rfl)) (fun x y h => ⟨0, (whole_Neg_eq 0 x.1).trans h⟩)

noncomputable def Γ_dyad_Round : Env := { T := T, Φ := fun i => bif Nat.beq i 62 then some en_dyad_Make else bif Nat.beq i 99 then some en_whole_Right else bif Nat.beq i 111 then some en_limbs_Bits else bif Nat.beq i 122 then some en_whole_Neg else none, ann := fun i => [] }
theorem dyad_Round_eq (K : Nat) (a : dY) (bits : Int) (up : Bool) : exF Γ_dyad_Round K Tryz.f102 (.pair tY (.pair (.int .i64) (.pair .bool .unit))) (.pair tY tE) [] (a, bits, up, ()) = dyad_Round a bits up := by kernel_rfl
theorem env_dyad_Round : EnvOK Tryz.prog G Γ_dyad_Round := ⟨T_ok, ((phi_cons fn_dyad_Make (phi_cons fn_whole_Right (phi_cons fn_limbs_Bits (phi_cons fn_whole_Neg phi_nil)))) : PhiOK Tryz.prog G Γ_dyad_Round.Φ), fun _ _ h => (by cases h), mixed⟩
theorem fn_dyad_Round : FnOK Tryz.prog G 102 en_dyad_Round := FnOK.of env_dyad_Round Tryz.func102 (by kernel_rfl) (by kernel_rfl) (of_decide_eq_true (by kernel_rfl)) (fun x y h => ⟨0, (dyad_Round_eq 0 x.1 x.2.1 x.2.2.1).trans h⟩)

noncomputable def Γ_whole_Nat : Env := { T := T, Φ := fun i => bif Nat.beq i 75 then some en_slices_Clone_api_Nat_uint32 else bif Nat.beq i 89 then some en_whole_of else none, ann := fun i => [] }
theorem whole_Nat_eq (K : Nat) (a : List Int) : exF Γ_whole_Nat K Tryz.f106 (.pair lU .unit) (.pair tI .unit) [] (a, ()) = whole_Nat a := by kernel_rfl
theorem env_whole_Nat : EnvOK Tryz.prog G Γ_whole_Nat := ⟨T_ok, ((phi_cons fn_slices_Clone_api_Nat_uint32 (phi_cons fn_whole_of phi_nil)) : PhiOK Tryz.prog G Γ_whole_Nat.Φ), fun _ _ h => (by cases h), mixed⟩
theorem fn_whole_Nat : FnOK Tryz.prog G 106 en_whole_Nat := FnOK.of env_whole_Nat Tryz.func106 (by kernel_rfl) (by kernel_rfl) (of_decide_eq_true (by kernel_rfl)) (fun x y h => ⟨0, (whole_Nat_eq 0 x.1).trans h⟩)

noncomputable def Γ_ratio_Sign : Env := { T := T, Φ := fun i => bif Nat.beq i 64 then some en_whole_Sign else none, ann := fun i => [] }
theorem ratio_Sign_eq (K : Nat) (a : dR) : exF Γ_ratio_Sign K Tryz.f113 (.pair tR .unit) tE [] (a, ()) = ratio_Sign a := by kernel_rfl
theorem env_ratio_Sign : EnvOK Tryz.prog G Γ_ratio_Sign := ⟨T_ok, ((phi_cons fn_whole_Sign phi_nil) : PhiOK Tryz.prog G Γ_ratio_Sign.Φ), fun _ _ h => (by cases h), mixed⟩
theorem fn_ratio_Sign : FnOK Tryz.prog G 113 en_ratio_Sign := FnOK.of env_ratio_Sign Tryz.func113 (by kernel_rfl) (by kernel_rfl) (of_decide_eq_true (by kernel_rfl)) (fun x y h => ⟨0, (ratio_Sign_eq 0 x.1).trans h⟩)

theorem fn_limbs_short : FnOK Tryz.prog G 115 ⟨(.pair lU (.pair (.int .u32) .unit)), (.pair lU (.pair (.int .u32) .unit)), [], S.limbs_short, none⟩ := fn_limbs_short_of fn_limbs_trim

noncomputable def Γ_bits_LeadingZeros32 : Env := { T := T, Φ := fun i => bif Nat.beq i 124 then some en_bits_Len32 else none, ann := fun i => [] }
theorem bits_LeadingZeros32_eq (K : Nat) (x : Int) : exF Γ_bits_LeadingZeros32 K Tryz.f125 (.pair (.int .u32) .unit) tE [] (x, ()) = bits_LeadingZeros32 x := by kernel_rfl
theorem env_bits_LeadingZeros32 : EnvOK Tryz.prog G Γ_bits_LeadingZeros32 := ⟨T_ok, ((phi_cons fn_bits_Len32 phi_nil) : PhiOK Tryz.prog G Γ_bits_LeadingZeros32.Φ), fun _ _ h => (by cases h), mixed⟩
theorem fn_bits_LeadingZeros32 : FnOK Tryz.prog G 125 en_bits_LeadingZeros32 := FnOK.of env_bits_LeadingZeros32 Tryz.func125 (by kernel_rfl) (by kernel_rfl) (of_decide_eq_true (by kernel_rfl)) (fun x y h => ⟨0, (bits_LeadingZeros32_eq 0 x.1).trans h⟩)

noncomputable def Γ_limbs_moved : Env := { T := T, Φ := fun i => none, ann := fun i => bif Nat.beq i 3 then [(1, .c .sc), (5, .c (.own 100 127 (.int .u32))), (13, .c (.data (.int .u32))), (14, .c .sc), (15, .c .sc)] else [] }
noncomputable def limbs_moved_c : Code := (Tryz.f126.body).getD .skip
noncomputable def limbs_moved_fin := finish Γ_limbs_moved Tryz.f126.results.toList (.pair lU .unit) [some 127]
noncomputable def limbs_moved_k0 (κ : Kt (.pair lU .unit)) (a : Int) (b c : List Int) (d e : Int) := κ { t := (upd (upd (upd (upd (upd (fun _ => .undef) 1 (.one (.int .i64 a))) 5 (.one (.own 100))) 13 (.one (.sl (.int .u32) c))) 14 (.one (.int .i64 d))) 15 (.one (.int .i64 e))), m := (upd (upd (fun _ => .free) 0 .held) 100 (.row true 127 (.int .u32) b)), nx := 1000000, n := 41 }
noncomputable def limbs_moved_A0 (K : Nat) := loopAt Γ_limbs_moved K [.r, .r, .l, .r, .b] limbs_moved_c [] limbs_moved_fin (fun _ _ => none) limbs_moved_fin
theorem limbs_moved_loop0 (K : Nat) : ∀ n, limbs_moved_k0 (limbs_moved_A0 K n) = limbs_moved_l0 K n
  | 0 => by kernel_rfl
  | n + 1 => Eq.trans (b := limbs_moved_s0 (limbs_moved_k0 (limbs_moved_A0 K n))) (by kernel_rfl) (by rw [limbs_moved_loop0 K n]; rfl)
theorem limbs_moved_eq (K : Nat) (a : List Int) (shift : Int) : exF Γ_limbs_moved K Tryz.f126 (.pair lU tE) (.pair lU .unit) [some 127] (a, shift, ()) = limbs_moved K a shift :=
  Eq.trans (b := limbs_moved_b (limbs_moved_k0 (limbs_moved_A0 K K)) a shift) (by kernel_rfl) (by rw [limbs_moved_loop0 K K]; rfl)
theorem env_limbs_moved : EnvOK Tryz.prog G Γ_limbs_moved := ⟨T_ok, (phi_nil : PhiOK Tryz.prog G Γ_limbs_moved.Φ), fun _ _ h => (by cases h), mixed⟩
theorem fn_limbs_moved : FnOK Tryz.prog G 126 en_limbs_moved := FnOK.of env_limbs_moved Tryz.func126 (by kernel_rfl) (by kernel_rfl) (of_decide_eq_true (by kernel_rfl)) (fun x y h => by obtain ⟨K, hK⟩ := limbs_moved_ok x y h; exact ⟨K, (limbs_moved_eq K x.1 x.2.1).trans hK⟩)

noncomputable def Γ_limbs_less : Env := { T := T, Φ := fun i => none, ann := fun i => bif Nat.beq i 3 then [(0, .c .win), (1, .c (.data (.int .u32))), (2, .c .sc), (7, .c .sc), (8, .c .sc), (13, .c (.data (.int .u32))), (14, .c .sc), (15, .c .sc)] else [] }
noncomputable def limbs_less_c : Code := (Tryz.f127.body).getD .skip
noncomputable def limbs_less_fin := finishW Γ_limbs_less 127 Tryz.f127.results.toList (.pair lU (.pair .bool .unit)) []
noncomputable def limbs_less_k0 (κ : Kt (.pair lU (.pair .bool .unit))) (a : List Int) (b c : Nat) (d : List Int) (e f g : Int) (h : List Int) (i j : Int) := κ { t := (upd (upd (upd (upd (upd (upd (upd (upd (fun _ => .undef) 0 (.one (.sub 0 b c))) 1 (.one (.sl (.int .u32) d))) 2 (.one (.int .u64 e))) 7 (.one (.int .u64 f))) 8 (.one (.int .u64 g))) 13 (.one (.sl (.int .u32) h))) 14 (.one (.int .i64 i))) 15 (.one (.int .i64 j))), m := (upd (upd (fun _ => .free) 0 .held) 0 (.row true 127 (.int .u32) a)), nx := 1000000, n := 66 }
noncomputable def limbs_less_A0 (K : Nat) := loopAt Γ_limbs_less K [.r, .r, .l, .r, .b] limbs_less_c [] limbs_less_fin (fun _ _ => none) limbs_less_fin
theorem limbs_less_loop0 (K : Nat) : ∀ n, limbs_less_k0 (limbs_less_A0 K n) = limbs_less_l0 K n
  | 0 => by kernel_rfl
  | n + 1 => Eq.trans (b := limbs_less_s0 (limbs_less_k0 (limbs_less_A0 K n))) (by kernel_rfl) (by rw [limbs_less_loop0 K n]; rfl)
theorem limbs_less_eq (K : Nat) (u : List Int) (off : Int) (len : Int) (v : List Int) (digit : Int) : exW Γ_limbs_less K Tryz.f127 127 (.pair lU (.pair (.int .i64) (.pair (.int .i64) (.pair lU (.pair (.int .u64) .unit))))) (.pair lU (.pair .bool .unit)) [] (u, off, len, v, digit, ()) = limbs_less K u off len v digit :=
  Eq.trans (b := limbs_less_b (limbs_less_k0 (limbs_less_A0 K K)) u off len v digit) (by kernel_rfl) (by rw [limbs_less_loop0 K K]; rfl)
theorem env_limbs_less : EnvOK Tryz.prog G Γ_limbs_less := ⟨T_ok, (phi_nil : PhiOK Tryz.prog G Γ_limbs_less.Φ), fun _ _ h => (by cases h), mixed⟩
theorem fn_limbs_less : FnOK Tryz.prog G 127 en_limbs_less := FnOK.ofW env_limbs_less Tryz.func127 (by kernel_rfl) (by kernel_rfl) (of_decide_eq_true (by kernel_rfl)) limbs_less_len (fun x y h => by obtain ⟨K, hK⟩ := limbs_less_ok x y h; exact ⟨K, (limbs_less_eq K x.1 x.2.1 x.2.2.1 x.2.2.2.1 x.2.2.2.2.1).trans hK⟩)

noncomputable def Γ_limbs_back : Env := { T := T, Φ := fun i => none, ann := fun i => bif Nat.beq i 2 then [(0, .c .win), (1, .c (.data (.int .u32))), (4, .c .sc), (7, .c (.data (.int .u32))), (8, .c .sc), (9, .c .sc)] else [] }
noncomputable def limbs_back_c : Code := (Tryz.f128.body).getD .skip
noncomputable def limbs_back_fin := finishW Γ_limbs_back 127 Tryz.f128.results.toList (.pair lU .unit) []
noncomputable def limbs_back_k0 (κ : Kt (.pair lU .unit)) (a : List Int) (b c : Nat) (d : List Int) (e : Int) (f : List Int) (g h : Int) := κ { t := (upd (upd (upd (upd (upd (upd (fun _ => .undef) 0 (.one (.sub 0 b c))) 1 (.one (.sl (.int .u32) d))) 4 (.one (.int .u64 e))) 7 (.one (.sl (.int .u32) f))) 8 (.one (.int .i64 g))) 9 (.one (.int .i64 h))), m := (upd (upd (fun _ => .free) 0 .held) 0 (.row true 127 (.int .u32) a)), nx := 1000000, n := 41 }
noncomputable def limbs_back_A0 (K : Nat) := loopAt Γ_limbs_back K [.r, .l, .r, .b] limbs_back_c [] limbs_back_fin (fun _ _ => none) limbs_back_fin
theorem limbs_back_loop0 (K : Nat) : ∀ n, limbs_back_k0 (limbs_back_A0 K n) = limbs_back_l0 K n
  | 0 => by kernel_rfl
  | n + 1 => Eq.trans (b := limbs_back_s0 (limbs_back_k0 (limbs_back_A0 K n))) (by kernel_rfl) (by rw [limbs_back_loop0 K n]; rfl)
theorem limbs_back_eq (K : Nat) (u : List Int) (off : Int) (len : Int) (v : List Int) : exW Γ_limbs_back K Tryz.f128 127 (.pair lU (.pair (.int .i64) (.pair (.int .i64) (.pair lU .unit)))) (.pair lU .unit) [] (u, off, len, v, ()) = limbs_back K u off len v :=
  Eq.trans (b := limbs_back_b (limbs_back_k0 (limbs_back_A0 K K)) u off len v) (by kernel_rfl) (by rw [limbs_back_loop0 K K]; rfl)
theorem env_limbs_back : EnvOK Tryz.prog G Γ_limbs_back := ⟨T_ok, (phi_nil : PhiOK Tryz.prog G Γ_limbs_back.Φ), fun _ _ h => (by cases h), mixed⟩
theorem fn_limbs_back : FnOK Tryz.prog G 128 en_limbs_back := FnOK.ofW env_limbs_back Tryz.func128 (by kernel_rfl) (by kernel_rfl) (of_decide_eq_true (by kernel_rfl)) limbs_back_len (fun x y h => by obtain ⟨K, hK⟩ := limbs_back_ok x y h; exact ⟨K, (limbs_back_eq K x.1 x.2.1 x.2.2.1 x.2.2.2.1).trans hK⟩)

noncomputable def Γ_limbs_long : Env := { T := T, Φ := fun i => bif Nat.beq i 107 then some en_limbs_trim else bif Nat.beq i 121 then some en_limbs_Right else bif Nat.beq i 125 then some en_bits_LeadingZeros32 else bif Nat.beq i 126 then some en_limbs_moved else bif Nat.beq i 127 then some en_limbs_less else bif Nat.beq i 128 then some en_limbs_back else none, ann := fun i => bif Nat.beq i 7 then [(6, .c .sc), (7, .c (.data (.int .u32))), (8, .c (.own 100 127 (.int .u32))), (9, .c (.own 101 127 (.int .u32))), (10, .c .sc), (11, .c .sc)] else bif Nat.beq i 11 then [(6, .c .sc), (7, .c (.data (.int .u32))), (8, .c (.own 100 127 (.int .u32))), (9, .c (.own 101 127 (.int .u32))), (10, .c .sc), (11, .c .sc), (13, .c .sc), (14, .c .sc)] else [], ord := fun i => bif Nat.beq i 9 then [0, 1, 2, 3, 4, 5, 6, 7, 8, 9, 10, 11, 12, 13, 14, 15, 16, 17] else bif Nat.beq i 10 then [0, 1, 2, 3, 4, 5, 6, 7, 8, 9, 10, 11, 12, 13, 14, 15, 16, 17] else bif Nat.beq i 11 then [0, 1, 2, 3, 4, 5, 6, 7, 8, 9, 10, 11, 12, 13, 14, 15, 16, 17, 18, 19, 20, 21, 22, 23, 24] else [] }
noncomputable def limbs_long_c : Code := (Tryz.f116.body).getD .skip
noncomputable def limbs_long_fin := finish Γ_limbs_long Tryz.f116.results.toList (.pair lU (.pair lU .unit)) []
noncomputable def limbs_long_k0 (κ : Kt (.pair lU (.pair lU .unit))) (a : Int) (b c d : List Int) (e f : Int) := κ { t := (upd (upd (upd (upd (upd (upd (fun _ => .undef) 6 (.one (.int .i64 a))) 7 (.one (.sl (.int .u32) b))) 8 (.one (.own 100))) 9 (.one (.own 101))) 10 (.one (.int .i64 e))) 11 (.one (.int .i64 f))), m := (upd (upd (upd (fun _ => .free) 0 .held) 100 (.row true 127 (.int .u32) c)) 101 (.row true 127 (.int .u32) d)), nx := 1000000, n := 156 }
noncomputable def limbs_long_k1 (κ : Kt (.pair lU (.pair lU .unit))) (a : Int) (b c d : List Int) (e f g h : Int) := κ { t := (upd (upd (upd (upd (upd (upd (upd (upd (fun _ => .undef) 6 (.one (.int .i64 a))) 7 (.one (.sl (.int .u32) b))) 8 (.one (.own 100))) 9 (.one (.own 101))) 10 (.one (.int .i64 e))) 11 (.one (.int .i64 f))) 13 (.one (.int .u64 g))) 14 (.one (.int .u64 h))), m := (upd (upd (upd (fun _ => .free) 0 .held) 100 (.row true 127 (.int .u32) c)) 101 (.row true 127 (.int .u32) d)), nx := 1000000, n := 156 }
noncomputable def limbs_long_A1 (K : Nat) (κ0 : Kt (.pair lU (.pair lU .unit))) := loopAt Γ_limbs_long K [.r, .r, .r, .r, .r, .r, .l, .r, .b, .c, .r, .l, .b, .r, .r, .l, .b] limbs_long_c [fun st => mask [(6, .c .sc), (7, .c (.data (.int .u32))), (8, .c (.own 100 127 (.int .u32))), (9, .c (.own 101 127 (.int .u32))), (10, .c .sc), (11, .c .sc)] 1000000 st (κ0)] limbs_long_fin (fun _ _ => none) limbs_long_fin
theorem limbs_long_loop1 (K : Nat) (κ0 : Kt (.pair lU (.pair lU .unit))) : ∀ n, limbs_long_k1 (limbs_long_A1 K κ0 n) = limbs_long_l1 K (limbs_long_k0 κ0) n
  | 0 => by kernel_rfl
  | n + 1 => Eq.trans (b := limbs_long_s1 (limbs_long_k0 κ0) (limbs_long_k1 (limbs_long_A1 K κ0 n))) (by kernel_rfl) (by rw [limbs_long_loop1 K κ0 n]; rfl)
noncomputable def limbs_long_A0 (K : Nat) := loopAt Γ_limbs_long K [.r, .r, .r, .r, .r, .r, .l, .r, .b] limbs_long_c [] limbs_long_fin (fun _ _ => none) limbs_long_fin
theorem limbs_long_loop0 (K : Nat) : ∀ n, limbs_long_k0 (limbs_long_A0 K n) = limbs_long_l0 K n
  | 0 => by kernel_rfl
  | n + 1 => Eq.trans (b := limbs_long_s0 (limbs_long_k1 (limbs_long_A1 K (limbs_long_A0 K n) K)) (limbs_long_k0 (limbs_long_A0 K n))) (by kernel_rfl) (by rw [limbs_long_loop1 K (limbs_long_A0 K n) K, limbs_long_loop0 K n]; rfl)
theorem limbs_long_eq (K : Nat) (a : List Int) (b : List Int) : exF Γ_limbs_long K Tryz.f116 (.pair lU (.pair lU .unit)) (.pair lU (.pair lU .unit)) [] (a, b, ()) = limbs_long K a b :=
  Eq.trans (b := limbs_long_b (limbs_long_k0 (limbs_long_A0 K K)) a b) (by kernel_rfl) (by rw [limbs_long_loop0 K K]; rfl)
theorem env_limbs_long : EnvOK Tryz.prog G Γ_limbs_long := ⟨T_ok, ((phi_cons fn_limbs_trim (phi_cons fn_limbs_Right (phi_cons fn_bits_LeadingZeros32 (phi_cons fn_limbs_moved (phi_cons fn_limbs_less (phi_cons fn_limbs_back phi_nil)))))) : PhiOK Tryz.prog G Γ_limbs_long.Φ), fun _ _ h => (by cases h), mixed⟩
theorem fn_limbs_long : FnOK Tryz.prog G 116 en_limbs_long := FnOK.of env_limbs_long Tryz.func116 (by kernel_rfl) (by kernel_rfl) (of_decide_eq_true (by kernel_rfl)) (fun x y h => by obtain ⟨K, hK⟩ := limbs_long_ok x y h; exact ⟨K, (limbs_long_eq K x.1 x.2.1).trans hK⟩)

noncomputable def Γ_limbs_Div : Env := { T := T, Φ := fun i => bif Nat.beq i 75 then some en_slices_Clone_api_Nat_uint32 else bif Nat.beq i 76 then some en_limbs_Of else bif Nat.beq i 96 then some en_limbs_Compare else bif Nat.beq i 115 then some en_limbs_short else bif Nat.beq i 116 then some en_limbs_long else none, ann := fun i => [] }
theorem limbs_Div_eq (K : Nat) (a : List Int) (b : List Int) : exF Γ_limbs_Div K Tryz.f88 (.pair lU (.pair lU .unit)) (.pair lU (.pair lU tE)) [] (a, b, ()) = limbs_Div a b := by kernel_rfl
theorem env_limbs_Div : EnvOK Tryz.prog G Γ_limbs_Div := ⟨T_ok, ((phi_cons fn_slices_Clone_api_Nat_uint32 (phi_cons fn_limbs_Of (phi_cons fn_limbs_Compare (phi_cons fn_limbs_short (phi_cons fn_limbs_long phi_nil))))) : PhiOK Tryz.prog G Γ_limbs_Div.Φ), fun _ _ h => (by cases h), mixed⟩
theorem fn_limbs_Div : FnOK Tryz.prog G 88 en_limbs_Div := FnOK.of env_limbs_Div Tryz.func88 (by kernel_rfl) (by kernel_rfl) (of_decide_eq_true (by kernel_rfl)) (fun x y h => ⟨0, (limbs_Div_eq 0 x.1 x.2.1).trans h⟩)

noncomputable def Γ_whole_Div : Env := { T := T, Φ := fun i => bif Nat.beq i 76 then some en_limbs_Of else bif Nat.beq i 88 then some en_limbs_Div else bif Nat.beq i 89 then some en_whole_of else bif Nat.beq i 95 then some en_limbs_Add else bif Nat.beq i 97 then some en_limbs_Sub else none, ann := fun i => [] }
theorem whole_Div_eq (K : Nat) (a : dI) (b : dI) : exF Γ_whole_Div K Tryz.f114 (.pair tI (.pair tI .unit)) (.pair tI tY) [] (a, b, ()) = whole_Div a b := by kernel_rfl
theorem env_whole_Div : EnvOK Tryz.prog G Γ_whole_Div := ⟨T_ok, ((phi_cons fn_limbs_Of (phi_cons fn_limbs_Div (phi_cons fn_whole_of (phi_cons fn_limbs_Add (phi_cons fn_limbs_Sub phi_nil))))) : PhiOK Tryz.prog G Γ_whole_Div.Φ), fun _ _ h => (by cases h), mixed⟩
theorem fn_whole_Div : FnOK Tryz.prog G 114 en_whole_Div := FnOK.of env_whole_Div Tryz.func114 (by kernel_rfl) (by kernel_rfl) (of_decide_eq_true (by kernel_rfl)) (fun x y h => ⟨0, (whole_Div_eq 0 x.1 x.2.1).trans h⟩)

noncomputable def Γ_dyad_Near : Env := { T := T, Φ := fun i => bif Nat.beq i 54 then some en_whole_Of else bif Nat.beq i 61 then some en_whole_Add else bif Nat.beq i 62 then some en_dyad_Make else bif Nat.beq i 64 then some en_whole_Sign else bif Nat.beq i 94 then some en_whole_Left else bif Nat.beq i 102 then some en_dyad_Round else bif Nat.beq i 106 then some en_whole_Nat else bif Nat.beq i 111 then some en_limbs_Bits else bif Nat.beq i 113 then some en_ratio_Sign else bif Nat.beq i 114 then some en_whole_Div else none, ann := fun i => [], ord := fun i => bif Nat.beq i 5 then [0, 1, 2, 3, 6, 7, 4, 5, 8, 9, 10, 11] else bif Nat.beq i 6 then [0, 1, 2, 3, 4, 5, 6, 7, 8] else bif Nat.beq i 15 then [0, 1, 2, 3, 4, 5, 6, 7] else [] }
theorem dyad_Near_eq (K : Nat) (a : dR) (bits : Int) (up : Bool) : exF Γ_dyad_Near K Tryz.f86 (.pair tR (.pair (.int .i64) (.pair .bool .unit))) (.pair tY tE) [] (a, bits, up, ()) = dyad_Near a bits up := by kernel_rfl
theorem env_dyad_Near : EnvOK Tryz.prog G Γ_dyad_Near := ⟨T_ok, ((phi_cons fn_whole_Of (phi_cons fn_whole_Add (phi_cons fn_dyad_Make (phi_cons fn_whole_Sign (phi_cons fn_whole_Left (phi_cons fn_dyad_Round (phi_cons fn_whole_Nat (phi_cons fn_limbs_Bits (phi_cons fn_ratio_Sign (phi_cons fn_whole_Div phi_nil)))))))))) : PhiOK Tryz.prog G Γ_dyad_Near.Φ), fun _ _ h => (by cases h), mixed⟩
theorem fn_dyad_Near : FnOK Tryz.prog G 86 en_dyad_Near := FnOK.of env_dyad_Near Tryz.func86 (by kernel_rfl) (by kernel_rfl) (of_decide_eq_true (by kernel_rfl)) (fun x y h => ⟨0, (dyad_Near_eq 0 x.1 x.2.1 x.2.2.1).trans h⟩)

noncomputable def Γ_span_Near : Env := { T := T, Φ := fun i => bif Nat.beq i 86 then some en_dyad_Near else none, ann := fun i => [] }
theorem span_Near_eq (K : Nat) (a : dR) (bits : Int) : exF Γ_span_Near K Tryz.f49 (.pair tR tE) (.pair tS tE) [] (a, bits, ()) = span_Near a bits := by kernel_rfl
theorem env_span_Near : EnvOK Tryz.prog G Γ_span_Near := ⟨T_ok, ((phi_cons fn_dyad_Near phi_nil) : PhiOK Tryz.prog G Γ_span_Near.Φ), fun _ _ h => (by cases h), mixed⟩
theorem fn_span_Near : FnOK Tryz.prog G 49 en_span_Near := FnOK.of env_span_Near Tryz.func49 (by kernel_rfl) (by kernel_rfl) (of_decide_eq_true (by kernel_rfl)) (fun x y h => ⟨0, (span_Near_eq 0 x.1 x.2.1).trans h⟩)

noncomputable def Γ_vec_Near : Env := { T := T, Φ := fun i => bif Nat.beq i 49 then some en_span_Near else none, ann := fun i => bif Nat.beq i 3 then [(1, .c .sc), (6, .c (.own 100 65 tS)), (14, .c (.data tR)), (15, .c .sc), (16, .c .sc)] else [] }
noncomputable def vec_Near_c : Code := (Tryz.f12.body).getD .skip
noncomputable def vec_Near_fin := finish Γ_vec_Near Tryz.f12.results.toList (.pair lS tE) []
noncomputable def vec_Near_k0 (κ : Kt (.pair lS tE)) (a : Int) (b : List dS) (c : List dR) (d e : Int) := κ { t := (upd (upd (upd (upd (upd (fun _ => .undef) 1 (.one (.int .i64 a))) 6 (.one (.own 100))) 14 (.one (.sl tR c))) 15 (.one (.int .i64 d))) 16 (.one (.int .i64 e))), m := (upd (upd (fun _ => .free) 0 .held) 100 (.row true 65 tS b)), nx := 1000000, n := 36 }
noncomputable def vec_Near_A0 (K : Nat) := loopAt Γ_vec_Near K [.r, .r, .l, .r, .b] vec_Near_c [] vec_Near_fin (fun _ _ => none) vec_Near_fin
theorem vec_Near_loop0 (K : Nat) : ∀ n, vec_Near_k0 (vec_Near_A0 K n) = vec_Near_l0 K n
  | 0 => by kernel_rfl
  | n + 1 => Eq.trans (b := vec_Near_s0 (vec_Near_k0 (vec_Near_A0 K n))) (by kernel_rfl) (by rw [vec_Near_loop0 K n]; rfl)
theorem vec_Near_eq (K : Nat) (a : List dR) (bits : Int) : exF Γ_vec_Near K Tryz.f12 (.pair lR tE) (.pair lS tE) [] (a, bits, ()) = vec_Near K a bits :=
  Eq.trans (b := vec_Near_b (vec_Near_k0 (vec_Near_A0 K K)) a bits) (by kernel_rfl) (by rw [vec_Near_loop0 K K]; rfl)
theorem env_vec_Near : EnvOK Tryz.prog G Γ_vec_Near := ⟨T_ok, ((phi_cons fn_span_Near phi_nil) : PhiOK Tryz.prog G Γ_vec_Near.Φ), fun _ _ h => (by cases h), mixed⟩
theorem fn_vec_Near : FnOK Tryz.prog G 12 en_vec_Near := FnOK.of env_vec_Near Tryz.func12 (by kernel_rfl) (by kernel_rfl) (of_decide_eq_true (by kernel_rfl)) (fun x y h => ⟨100, (vec_Near_eq 100 x.1 x.2.1).trans h⟩)

noncomputable def Γ_span_Point : Env := { T := T, Φ := fun i => none, ann := fun i => [] }
theorem span_Point_eq (K : Nat) (a : dY) : exF Γ_span_Point K Tryz.f25 (.pair tY .unit) (.pair tS .unit) [] (a, ()) = span_Point a := by kernel_rfl
theorem env_span_Point : EnvOK Tryz.prog G Γ_span_Point := ⟨T_ok, (phi_nil : PhiOK Tryz.prog G Γ_span_Point.Φ), fun _ _ h => (by cases h), mixed⟩
theorem fn_span_Point : FnOK Tryz.prog G 25 en_span_Point := FnOK.of env_span_Point Tryz.func25 (by kernel_rfl) (by kernel_rfl) (of_decide_eq_true (by kernel_rfl)) (fun x y h => ⟨0, (span_Point_eq 0 x.1).trans h⟩)

noncomputable def Γ_whole_Abs : Env := { T := T, Φ := fun i => bif Nat.beq i 75 then some en_slices_Clone_api_Nat_uint32 else bif Nat.beq i 89 then some en_whole_of else none, ann := fun i => [] }
theorem whole_Abs_eq (K : Nat) (a : dI) : exF Γ_whole_Abs K Tryz.f74 (.pair tI .unit) (.pair tI .unit) [] (a, ()) = whole_Abs a := by kernel_rfl
theorem env_whole_Abs : EnvOK Tryz.prog G Γ_whole_Abs := ⟨T_ok, ((phi_cons fn_slices_Clone_api_Nat_uint32 (phi_cons fn_whole_of phi_nil)) : PhiOK Tryz.prog G Γ_whole_Abs.Φ), fun _ _ h => (by cases h), mixed⟩
theorem fn_whole_Abs : FnOK Tryz.prog G 74 en_whole_Abs := FnOK.of env_whole_Abs Tryz.func74 (by kernel_rfl) (by kernel_rfl) (of_decide_eq_true (by kernel_rfl)) (fun x y h => ⟨0, (whole_Abs_eq 0 x.1).trans h⟩)

noncomputable def Γ_dyad_Abs : Env := { T := T, Φ := fun i => bif Nat.beq i 74 then some en_whole_Abs else none, ann := fun i => [], ord := fun i => bif Nat.beq i 1 then [0, 1, 3, 4, 2, 5, 6] else [] }
theorem dyad_Abs_eq (K : Nat) (a : dY) : exF Γ_dyad_Abs K Tryz.f67 (.pair tY .unit) (.pair tY .unit) [] (a, ()) = dyad_Abs a := by kernel_rfl
theorem env_dyad_Abs : EnvOK Tryz.prog G Γ_dyad_Abs := ⟨T_ok, ((phi_cons fn_whole_Abs phi_nil) : PhiOK Tryz.prog G Γ_dyad_Abs.Φ), fun _ _ h => (by cases h), mixed⟩
theorem fn_dyad_Abs : FnOK Tryz.prog G 67 en_dyad_Abs := FnOK.of env_dyad_Abs Tryz.func67 (by kernel_rfl) (by kernel_rfl) (of_decide_eq_true (by kernel_rfl)) (fun x y h => ⟨0, (dyad_Abs_eq 0 x.1).trans h⟩)

noncomputable def Γ_dyad_Sign : Env := { T := T, Φ := fun i => bif Nat.beq i 64 then some en_whole_Sign else none, ann := fun i => [] }
theorem dyad_Sign_eq (K : Nat) (a : dY) : exF Γ_dyad_Sign K Tryz.f20 (.pair tY .unit) tE [] (a, ()) = dyad_Sign a := by kernel_rfl
theorem env_dyad_Sign : EnvOK Tryz.prog G Γ_dyad_Sign := ⟨T_ok, ((phi_cons fn_whole_Sign phi_nil) : PhiOK Tryz.prog G Γ_dyad_Sign.Φ), fun _ _ h => (by cases h), mixed⟩
theorem fn_dyad_Sign : FnOK Tryz.prog G 20 en_dyad_Sign := FnOK.of env_dyad_Sign Tryz.func20 (by kernel_rfl) (by kernel_rfl) (of_decide_eq_true (by kernel_rfl)) (fun x y h => ⟨0, (dyad_Sign_eq 0 x.1).trans h⟩)

noncomputable def Γ_dyad_level : Env := { T := T, Φ := fun i => bif Nat.beq i 20 then some en_dyad_Sign else bif Nat.beq i 94 then some en_whole_Left else none, ann := fun i => [], ord := fun i => bif Nat.beq i 2 then [0, 1, 2, 3, 4, 5, 6, 7, 8] else bif Nat.beq i 4 then [0, 1, 2, 3, 4, 5, 6, 7, 8] else bif Nat.beq i 9 then [0, 1, 2, 3, 4, 5, 6, 7] else bif Nat.beq i 10 then [0, 1, 2, 3, 4, 5, 6, 7] else [] }
theorem dyad_level_eq (K : Nat) (a : dY) (b : dY) : exF Γ_dyad_level K Tryz.f60 tS (.pair tI (.pair tI (.pair (.int .i64) tE))) [] (a, b, ()) = dyad_level a b := by kernel_rfl
theorem env_dyad_level : EnvOK Tryz.prog G Γ_dyad_level := ⟨T_ok, ((phi_cons fn_dyad_Sign (phi_cons fn_whole_Left phi_nil)) : PhiOK Tryz.prog G Γ_dyad_level.Φ), fun _ _ h => (by cases h), mixed⟩
theorem fn_dyad_level : FnOK Tryz.prog G 60 en_dyad_level := FnOK.of env_dyad_level Tryz.func60 (by kernel_rfl) (by kernel_rfl) (of_decide_eq_true (by kernel_rfl)) (fun x y h => ⟨0, (dyad_level_eq 0 x.1 x.2.1).trans h⟩)

noncomputable def Γ_whole_Compare : Env := { T := T, Φ := fun i => bif Nat.beq i 64 then some en_whole_Sign else bif Nat.beq i 96 then some en_limbs_Compare else none, ann := fun i => [], ord := fun i => bif Nat.beq i 1 then [0, 2, 1, 3, 4, 5] else [] }
theorem whole_Compare_eq (K : Nat) (a : dI) (b : dI) : exF Γ_whole_Compare K Tryz.f73 (.pair tI (.pair tI .unit)) tE [] (a, b, ()) = whole_Compare a b := by kernel_rfl
theorem env_whole_Compare : EnvOK Tryz.prog G Γ_whole_Compare := ⟨T_ok, ((phi_cons fn_whole_Sign (phi_cons fn_limbs_Compare phi_nil)) : PhiOK Tryz.prog G Γ_whole_Compare.Φ), fun _ _ h => (by cases h), mixed⟩
theorem fn_whole_Compare : FnOK Tryz.prog G 73 en_whole_Compare := FnOK.of env_whole_Compare Tryz.func73 (by kernel_rfl) (by kernel_rfl) (of_decide_eq_true (by kernel_rfl)) (fun x y h => ⟨0, (whole_Compare_eq 0 x.1 x.2.1).trans h⟩)

noncomputable def Γ_dyad_top : Env := { T := T, Φ := fun i => bif Nat.beq i 111 then some en_limbs_Bits else none, ann := fun i => [], ord := fun i => bif Nat.beq i 1 then [0, 1, 2, 3, 4, 5, 6, 7] else [] }
theorem dyad_top_eq (K : Nat) (a : dY) : exF Γ_dyad_top K Tryz.f84 (.pair tY .unit) tE [] (a, ()) = dyad_top a := by kernel_rfl
theorem env_dyad_top : EnvOK Tryz.prog G Γ_dyad_top := ⟨T_ok, ((phi_cons fn_limbs_Bits phi_nil) : PhiOK Tryz.prog G Γ_dyad_top.Φ), fun _ _ h => (by cases h), mixed⟩
theorem fn_dyad_top : FnOK Tryz.prog G 84 en_dyad_top := FnOK.of env_dyad_top Tryz.func84 (by kernel_rfl) (by kernel_rfl) (of_decide_eq_true (by kernel_rfl)) (fun x y h => ⟨0, (dyad_top_eq 0 x.1).trans h⟩)

noncomputable def Γ_dyad_Compare : Env := { T := T, Φ := fun i => bif Nat.beq i 20 then some en_dyad_Sign else bif Nat.beq i 60 then some en_dyad_level else bif Nat.beq i 73 then some en_whole_Compare else bif Nat.beq i 84 then some en_dyad_top else none, ann := fun i => [], ord := fun i => bif Nat.beq i 1 then [0, 2, 1, 3, 4, 5] else bif Nat.beq i 8 then [0, 2, 1, 3, 4, 5] else [] }
theorem dyad_Compare_eq (K : Nat) (a : dY) (b : dY) : exF Γ_dyad_Compare K Tryz.f44 tS tE [] (a, b, ()) = dyad_Compare a b := by kernel_rfl
theorem env_dyad_Compare : EnvOK Tryz.prog G Γ_dyad_Compare := ⟨T_ok, ((phi_cons fn_dyad_Sign (phi_cons fn_dyad_level (phi_cons fn_whole_Compare (phi_cons fn_dyad_top phi_nil)))) : PhiOK Tryz.prog G Γ_dyad_Compare.Φ), fun _ _ h => (by cases h), mixed⟩
theorem fn_dyad_Compare : FnOK Tryz.prog G 44 en_dyad_Compare := FnOK.of env_dyad_Compare Tryz.func44 (by kernel_rfl) (by kernel_rfl) (of_decide_eq_true (by kernel_rfl)) (fun x y h => ⟨0, (dyad_Compare_eq 0 x.1 x.2.1).trans h⟩)

noncomputable def Γ_dyad_Less : Env := { T := T, Φ := fun i => bif Nat.beq i 44 then some en_dyad_Compare else none, ann := fun i => [] }
theorem dyad_Less_eq (K : Nat) (a : dY) (b : dY) : exF Γ_dyad_Less K Tryz.f22 tS (.pair .bool .unit) [] (a, b, ()) = dyad_Less a b := by kernel_rfl
theorem env_dyad_Less : EnvOK Tryz.prog G Γ_dyad_Less := ⟨T_ok, ((phi_cons fn_dyad_Compare phi_nil) : PhiOK Tryz.prog G Γ_dyad_Less.Φ), fun _ _ h => (by cases h), mixed⟩
theorem fn_dyad_Less : FnOK Tryz.prog G 22 en_dyad_Less := FnOK.of env_dyad_Less Tryz.func22 (by kernel_rfl) (by kernel_rfl) (of_decide_eq_true (by kernel_rfl)) (fun x y h => ⟨0, (dyad_Less_eq 0 x.1 x.2.1).trans h⟩)

noncomputable def Γ_dyad_own : Env := { T := T, Φ := fun i => bif Nat.beq i 75 then some en_slices_Clone_api_Nat_uint32 else none, ann := fun i => [] }
theorem dyad_own_eq (K : Nat) (a : dY) : exF Γ_dyad_own K Tryz.f117 (.pair tY .unit) (.pair tY .unit) [] (a, ()) = dyad_own a := by kernel_rfl
theorem env_dyad_own : EnvOK Tryz.prog G Γ_dyad_own := ⟨T_ok, ((phi_cons fn_slices_Clone_api_Nat_uint32 phi_nil) : PhiOK Tryz.prog G Γ_dyad_own.Φ), fun _ _ h => (by cases h), mixed⟩
theorem fn_dyad_own : FnOK Tryz.prog G 117 en_dyad_own := FnOK.of env_dyad_own Tryz.func117 (by kernel_rfl) (by kernel_rfl) (of_decide_eq_true (by kernel_rfl)) (fun x y h => ⟨0, (dyad_own_eq 0 x.1).trans h⟩)

noncomputable def Γ_dyad_Max : Env := { T := T, Φ := fun i => bif Nat.beq i 22 then some en_dyad_Less else bif Nat.beq i 117 then some en_dyad_own else none, ann := fun i => [] }
theorem dyad_Max_eq (K : Nat) (a : dY) (b : dY) : exF Γ_dyad_Max K Tryz.f91 tS (.pair tY .unit) [] (a, b, ()) = dyad_Max a b := by kernel_rfl
theorem env_dyad_Max : EnvOK Tryz.prog G Γ_dyad_Max := ⟨T_ok, ((phi_cons fn_dyad_Less (phi_cons fn_dyad_own phi_nil)) : PhiOK Tryz.prog G Γ_dyad_Max.Φ), fun _ _ h => (by cases h), mixed⟩
theorem fn_dyad_Max : FnOK Tryz.prog G 91 en_dyad_Max := FnOK.of env_dyad_Max Tryz.func91 (by kernel_rfl) (by kernel_rfl) (of_decide_eq_true (by kernel_rfl)) (fun x y h => ⟨0, (dyad_Max_eq 0 x.1 x.2.1).trans h⟩)

noncomputable def Γ_span_Size : Env := { T := T, Φ := fun i => bif Nat.beq i 67 then some en_dyad_Abs else bif Nat.beq i 91 then some en_dyad_Max else none, ann := fun i => [], ord := fun i => bif Nat.beq i 1 then [0, 1, 3, 4, 2, 5, 6, 7] else [] }
theorem span_Size_eq (K : Nat) (a : dS) : exF Γ_span_Size K Tryz.f58 (.pair tS .unit) (.pair tY .unit) [] (a, ()) = span_Size a := by kernel_rfl
theorem env_span_Size : EnvOK Tryz.prog G Γ_span_Size := ⟨T_ok, ((phi_cons fn_dyad_Abs (phi_cons fn_dyad_Max phi_nil)) : PhiOK Tryz.prog G Γ_span_Size.Φ), fun _ _ h => (by cases h), mixed⟩
theorem fn_span_Size : FnOK Tryz.prog G 58 en_span_Size := FnOK.of env_span_Size Tryz.func58 (by kernel_rfl) (by kernel_rfl) (of_decide_eq_true (by kernel_rfl)) (fun x y h => ⟨0, (span_Size_eq 0 x.1).trans h⟩)

noncomputable def Γ_dyad_Add : Env := { T := T, Φ := fun i => bif Nat.beq i 60 then some en_dyad_level else bif Nat.beq i 61 then some en_whole_Add else bif Nat.beq i 62 then some en_dyad_Make else none, ann := fun i => [] }
theorem dyad_Add_eq (K : Nat) (a : dY) (b : dY) : exF Γ_dyad_Add K Tryz.f16 tS (.pair tY tE) [] (a, b, ()) = dyad_Add a b := by kernel_rfl
theorem env_dyad_Add : EnvOK Tryz.prog G Γ_dyad_Add := ⟨T_ok, ((phi_cons fn_dyad_level (phi_cons fn_whole_Add (phi_cons fn_dyad_Make phi_nil))) : PhiOK Tryz.prog G Γ_dyad_Add.Φ), fun _ _ h => (by cases h), mixed⟩
theorem fn_dyad_Add : FnOK Tryz.prog G 16 en_dyad_Add := FnOK.of env_dyad_Add Tryz.func16 (by kernel_rfl) (by kernel_rfl) (of_decide_eq_true (by kernel_rfl)) (fun x y h => ⟨0, (dyad_Add_eq 0 x.1 x.2.1).trans h⟩)

noncomputable def Γ_dyad_Of : Env := { T := T, Φ := fun i => bif Nat.beq i 54 then some en_whole_Of else bif Nat.beq i 62 then some en_dyad_Make else none, ann := fun i => [] }
theorem dyad_Of_eq (K : Nat) (n : Int) (exp : Int) : exF Γ_dyad_Of K Tryz.f19 (.pair (.int .i64) tE) (.pair tY .unit) [] (n, exp, ()) = dyad_Of n exp := by kernel_rfl
theorem env_dyad_Of : EnvOK Tryz.prog G Γ_dyad_Of := ⟨T_ok, ((phi_cons fn_whole_Of (phi_cons fn_dyad_Make phi_nil)) : PhiOK Tryz.prog G Γ_dyad_Of.Φ), fun _ _ h => (by cases h), mixed⟩
theorem fn_dyad_Of : FnOK Tryz.prog G 19 en_dyad_Of := FnOK.of env_dyad_Of Tryz.func19 (by kernel_rfl) (by kernel_rfl) (of_decide_eq_true (by kernel_rfl)) (fun x y h => ⟨0, (dyad_Of_eq 0 x.1 x.2.1).trans h⟩)

noncomputable def Γ_limbs_Mul : Env := { T := T, Φ := fun i => bif Nat.beq i 118 then some en_limbs_fits else none, ann := fun i => bif Nat.beq i 7 then [(1, .c (.data (.int .u32))), (6, .c (.own 100 127 (.int .u32))), (32, .c (.data (.int .u32))), (33, .c .sc), (34, .c .sc)] else bif Nat.beq i 11 then [(1, .c (.data (.int .u32))), (6, .c (.own 100 127 (.int .u32))), (7, .c .sc), (8, .c .sc), (9, .c .sc), (32, .c (.data (.int .u32))), (33, .c .sc), (34, .c .sc), (39, .c (.data (.int .u32))), (40, .c .sc), (41, .c .sc)] else [] }
noncomputable def limbs_Mul_c : Code := (Tryz.f105.body).getD .skip
noncomputable def limbs_Mul_fin := finish Γ_limbs_Mul Tryz.f105.results.toList (.pair lU tE) []
noncomputable def limbs_Mul_k0 (κ : Kt (.pair lU tE)) (a b c : List Int) (d e : Int) := κ { t := (upd (upd (upd (upd (upd (fun _ => .undef) 1 (.one (.sl (.int .u32) a))) 6 (.one (.own 100))) 32 (.one (.sl (.int .u32) c))) 33 (.one (.int .i64 d))) 34 (.one (.int .i64 e))), m := (upd (upd (fun _ => .free) 0 .held) 100 (.row true 127 (.int .u32) b)), nx := 1000000, n := 84 }
noncomputable def limbs_Mul_k1 (κ : Kt (.pair lU tE)) (a b : List Int) (c d e : Int) (f : List Int) (g h : Int) (i : List Int) (j k : Int) := κ { t := (upd (upd (upd (upd (upd (upd (upd (upd (upd (upd (upd (fun _ => .undef) 1 (.one (.sl (.int .u32) a))) 6 (.one (.own 100))) 7 (.one (.int .i64 c))) 8 (.one (.int .u32 d))) 9 (.one (.int .u64 e))) 32 (.one (.sl (.int .u32) f))) 33 (.one (.int .i64 g))) 34 (.one (.int .i64 h))) 39 (.one (.sl (.int .u32) i))) 40 (.one (.int .i64 j))) 41 (.one (.int .i64 k))), m := (upd (upd (fun _ => .free) 0 .held) 100 (.row true 127 (.int .u32) b)), nx := 1000000, n := 84 }
noncomputable def limbs_Mul_A1 (K : Nat) (κ0 : Kt (.pair lU tE)) := loopAt Γ_limbs_Mul K [.r, .r, .r, .r, .l, .r, .b, .c, .r, .r, .l, .b, .r, .r, .l, .r, .b] limbs_Mul_c [fun st => mask [(1, .c (.data (.int .u32))), (6, .c (.own 100 127 (.int .u32))), (32, .c (.data (.int .u32))), (33, .c .sc), (34, .c .sc)] 1000000 st (κ0)] limbs_Mul_fin (fun _ _ => none) limbs_Mul_fin
theorem limbs_Mul_loop1 (K : Nat) (κ0 : Kt (.pair lU tE)) : ∀ n, limbs_Mul_k1 (limbs_Mul_A1 K κ0 n) = limbs_Mul_l1 K (limbs_Mul_k0 κ0) n
  | 0 => by kernel_rfl
  | n + 1 => Eq.trans (b := limbs_Mul_s1 (limbs_Mul_k0 κ0) (limbs_Mul_k1 (limbs_Mul_A1 K κ0 n))) (by kernel_rfl) (by rw [limbs_Mul_loop1 K κ0 n]; rfl)
noncomputable def limbs_Mul_A0 (K : Nat) := loopAt Γ_limbs_Mul K [.r, .r, .r, .r, .l, .r, .b] limbs_Mul_c [] limbs_Mul_fin (fun _ _ => none) limbs_Mul_fin
theorem limbs_Mul_loop0 (K : Nat) : ∀ n, limbs_Mul_k0 (limbs_Mul_A0 K n) = limbs_Mul_l0 K n
  | 0 => by kernel_rfl
  | n + 1 => Eq.trans (b := limbs_Mul_s0 (limbs_Mul_k1 (limbs_Mul_A1 K (limbs_Mul_A0 K n) K)) (limbs_Mul_k0 (limbs_Mul_A0 K n))) (by kernel_rfl) (by rw [limbs_Mul_loop1 K (limbs_Mul_A0 K n) K, limbs_Mul_loop0 K n]; rfl)
theorem limbs_Mul_eq (K : Nat) (a : List Int) (b : List Int) : exF Γ_limbs_Mul K Tryz.f105 (.pair lU (.pair lU .unit)) (.pair lU tE) [] (a, b, ()) = limbs_Mul K a b :=
  Eq.trans (b := limbs_Mul_b (limbs_Mul_k0 (limbs_Mul_A0 K K)) a b) (by kernel_rfl) (by rw [limbs_Mul_loop0 K K]; rfl)
theorem env_limbs_Mul : EnvOK Tryz.prog G Γ_limbs_Mul := ⟨T_ok, ((phi_cons fn_limbs_fits phi_nil) : PhiOK Tryz.prog G Γ_limbs_Mul.Φ), fun _ _ h => (by cases h), mixed⟩
theorem fn_limbs_Mul : FnOK Tryz.prog G 105 en_limbs_Mul := FnOK.of env_limbs_Mul Tryz.func105 (by kernel_rfl) (by kernel_rfl) (of_decide_eq_true (by kernel_rfl)) (fun x y h => by obtain ⟨K, hK⟩ := limbs_Mul_ok x y h; exact ⟨K, (limbs_Mul_eq K x.1 x.2.1).trans hK⟩)

noncomputable def Γ_whole_Mul : Env := { T := T, Φ := fun i => bif Nat.beq i 89 then some en_whole_of else bif Nat.beq i 105 then some en_limbs_Mul else none, ann := fun i => [] }
theorem whole_Mul_eq (K : Nat) (a : dI) (b : dI) : exF Γ_whole_Mul K Tryz.f70 (.pair tI (.pair tI .unit)) tY [] (a, b, ()) = whole_Mul a b := by kernel_rfl
theorem env_whole_Mul : EnvOK Tryz.prog G Γ_whole_Mul := ⟨T_ok, ((phi_cons fn_whole_of (phi_cons fn_limbs_Mul phi_nil)) : PhiOK Tryz.prog G Γ_whole_Mul.Φ), fun _ _ h => (by cases h), mixed⟩
theorem fn_whole_Mul : FnOK Tryz.prog G 70 en_whole_Mul := FnOK.of env_whole_Mul Tryz.func70 (by kernel_rfl) (by kernel_rfl) (of_decide_eq_true (by kernel_rfl)) (fun x y h => ⟨0, (whole_Mul_eq 0 x.1 x.2.1).trans h⟩)

noncomputable def Γ_dyad_Mul : Env := { T := T, Φ := fun i => bif Nat.beq i 62 then some en_dyad_Make else bif Nat.beq i 70 then some en_whole_Mul else none, ann := fun i => [] }
theorem dyad_Mul_eq (K : Nat) (a : dY) (b : dY) : exF Γ_dyad_Mul K Tryz.f92 tS (.pair tY tE) [] (a, b, ()) = dyad_Mul a b := by kernel_rfl
theorem env_dyad_Mul : EnvOK Tryz.prog G Γ_dyad_Mul := ⟨T_ok, ((phi_cons fn_dyad_Make (phi_cons fn_whole_Mul phi_nil)) : PhiOK Tryz.prog G Γ_dyad_Mul.Φ), fun _ _ h => (by cases h), mixed⟩
theorem fn_dyad_Mul : FnOK Tryz.prog G 92 en_dyad_Mul := FnOK.of env_dyad_Mul Tryz.func92 (by kernel_rfl) (by kernel_rfl) (of_decide_eq_true (by kernel_rfl)) (fun x y h => ⟨0, (dyad_Mul_eq 0 x.1 x.2.1).trans h⟩)

noncomputable def Γ_span_Middle : Env := { T := T, Φ := fun i => bif Nat.beq i 16 then some en_dyad_Add else bif Nat.beq i 19 then some en_dyad_Of else bif Nat.beq i 92 then some en_dyad_Mul else none, ann := fun i => [], ord := fun i => bif Nat.beq i 4 then [0, 1, 2, 3, 4, 5, 6] else [] }
theorem span_Middle_eq (K : Nat) (a : dS) : exF Γ_span_Middle K Tryz.f101 (.pair tS .unit) (.pair tY tE) [] (a, ()) = span_Middle a := by kernel_rfl
theorem env_span_Middle : EnvOK Tryz.prog G Γ_span_Middle := ⟨T_ok, ((phi_cons fn_dyad_Add (phi_cons fn_dyad_Of (phi_cons fn_dyad_Mul phi_nil))) : PhiOK Tryz.prog G Γ_span_Middle.Φ), fun _ _ h => (by cases h), mixed⟩
theorem fn_span_Middle : FnOK Tryz.prog G 101 en_span_Middle := FnOK.of env_span_Middle Tryz.func101 (by kernel_rfl) (by kernel_rfl) (of_decide_eq_true (by kernel_rfl)) (fun x y h => ⟨0, (span_Middle_eq 0 x.1).trans h⟩)

noncomputable def Γ_span_out : Env := { T := T, Φ := fun i => bif Nat.beq i 102 then some en_dyad_Round else none, ann := fun i => [] }
theorem span_out_eq (K : Nat) (lo : dY) (hi : dY) (bits : Int) : exF Γ_span_out K Tryz.f90 (.pair tY (.pair tY tE)) (.pair tS tE) [] (lo, hi, bits, ()) = span_out lo hi bits := by kernel_rfl
theorem env_span_out : EnvOK Tryz.prog G Γ_span_out := ⟨T_ok, ((phi_cons fn_dyad_Round phi_nil) : PhiOK Tryz.prog G Γ_span_out.Φ), fun _ _ h => (by cases h), mixed⟩
theorem fn_span_out : FnOK Tryz.prog G 90 en_span_out := FnOK.of env_span_out Tryz.func90 (by kernel_rfl) (by kernel_rfl) (of_decide_eq_true (by kernel_rfl)) (fun x y h => ⟨0, (span_out_eq 0 x.1 x.2.1 x.2.2.1).trans h⟩)

noncomputable def Γ_span_Add : Env := { T := T, Φ := fun i => bif Nat.beq i 16 then some en_dyad_Add else bif Nat.beq i 90 then some en_span_out else none, ann := fun i => [] }
theorem span_Add_eq (K : Nat) (a : dS) (b : dS) (bits : Int) : exF Γ_span_Add K Tryz.f57 (.pair tS (.pair tS tE)) (.pair tS tE) [] (a, b, bits, ()) = span_Add a b bits := by kernel_rfl
theorem env_span_Add : EnvOK Tryz.prog G Γ_span_Add := ⟨T_ok, ((phi_cons fn_dyad_Add (phi_cons fn_span_out phi_nil)) : PhiOK Tryz.prog G Γ_span_Add.Φ), fun _ _ h => (by cases h), mixed⟩
theorem fn_span_Add : FnOK Tryz.prog G 57 en_span_Add := FnOK.of env_span_Add Tryz.func57 (by kernel_rfl) (by kernel_rfl) (of_decide_eq_true (by kernel_rfl)) (fun x y h => ⟨0, (span_Add_eq 0 x.1 x.2.1 x.2.2.1).trans h⟩)

noncomputable def Γ_dyad_Neg : Env := { T := T, Φ := fun i => bif Nat.beq i 122 then some en_whole_Neg else none, ann := fun i => [], ord := fun i => bif Nat.beq i 1 then [0, 1, 3, 4, 2, 5, 6] else [] }
theorem dyad_Neg_eq (K : Nat) (a : dY) : exF Γ_dyad_Neg K Tryz.f100 (.pair tY .unit) (.pair tY .unit) [] (a, ()) = dyad_Neg a := by kernel_rfl
theorem env_dyad_Neg : EnvOK Tryz.prog G Γ_dyad_Neg := ⟨T_ok, ((phi_cons fn_whole_Neg phi_nil) : PhiOK Tryz.prog G Γ_dyad_Neg.Φ), fun _ _ h => (by cases h), mixed⟩
theorem fn_dyad_Neg : FnOK Tryz.prog G 100 en_dyad_Neg := FnOK.of env_dyad_Neg Tryz.func100 (by kernel_rfl) (by kernel_rfl) (of_decide_eq_true (by kernel_rfl)) (fun x y h => ⟨0, (dyad_Neg_eq 0 x.1).trans h⟩)

noncomputable def Γ_span_Neg : Env := { T := T, Φ := fun i => bif Nat.beq i 100 then some en_dyad_Neg else none, ann := fun i => [], ord := fun i => bif Nat.beq i 1 then [0, 1, 3, 4, 2, 5, 6, 7] else [] }
theorem span_Neg_eq (K : Nat) (a : dS) : exF Γ_span_Neg K Tryz.f123 (.pair tS .unit) (.pair tS .unit) [] (a, ()) = span_Neg a := by kernel_rfl
theorem env_span_Neg : EnvOK Tryz.prog G Γ_span_Neg := ⟨T_ok, ((phi_cons fn_dyad_Neg phi_nil) : PhiOK Tryz.prog G Γ_span_Neg.Φ), fun _ _ h => (by cases h), mixed⟩
theorem fn_span_Neg : FnOK Tryz.prog G 123 en_span_Neg := FnOK.of env_span_Neg Tryz.func123 (by kernel_rfl) (by kernel_rfl) (of_decide_eq_true (by kernel_rfl)) (fun x y h => ⟨0, (span_Neg_eq 0 x.1).trans h⟩)

noncomputable def Γ_span_Sub : Env := { T := T, Φ := fun i => bif Nat.beq i 57 then some en_span_Add else bif Nat.beq i 123 then some en_span_Neg else none, ann := fun i => [], ord := fun i => bif Nat.beq i 1 then [0, 1, 3, 2, 4, 5, 6, 7, 8] else [] }
theorem span_Sub_eq (K : Nat) (a : dS) (b : dS) (bits : Int) : exF Γ_span_Sub K Tryz.f103 (.pair tS (.pair tS tE)) (.pair tS tE) [] (a, b, bits, ()) = span_Sub a b bits := by kernel_rfl
theorem env_span_Sub : EnvOK Tryz.prog G Γ_span_Sub := ⟨T_ok, ((phi_cons fn_span_Add (phi_cons fn_span_Neg phi_nil)) : PhiOK Tryz.prog G Γ_span_Sub.Φ), fun _ _ h => (by cases h), mixed⟩
theorem fn_span_Sub : FnOK Tryz.prog G 103 en_span_Sub := FnOK.of env_span_Sub Tryz.func103 (by kernel_rfl) (by kernel_rfl) (of_decide_eq_true (by kernel_rfl)) (fun x y h => ⟨0, (span_Sub_eq 0 x.1 x.2.1 x.2.2.1).trans h⟩)

noncomputable def Γ_zono_middles : Env := { T := T, Φ := fun i => bif Nat.beq i 25 then some en_span_Point else bif Nat.beq i 58 then some en_span_Size else bif Nat.beq i 101 then some en_span_Middle else bif Nat.beq i 102 then some en_dyad_Round else bif Nat.beq i 103 then some en_span_Sub else none, ann := fun i => bif Nat.beq i 3 then [(1, .c .sc), (7, .c (.own 100 49 tY)), (8, .c (.own 101 49 tY)), (20, .c (.data tS)), (21, .c .sc), (22, .c .sc)] else [], ord := fun i => bif Nat.beq i 1 then [0, 1, 3, 4, 2, 6, 5, 7] else bif Nat.beq i 11 then [0, 1, 3, 2, 4, 5, 6, 7, 8, 9, 10] else bif Nat.beq i 14 then [0, 1, 2, 3, 4, 5, 6, 7, 8, 9, 10] else [] }
noncomputable def zono_middles_c : Code := (Tryz.f66.body).getD .skip
noncomputable def zono_middles_fin := finish Γ_zono_middles Tryz.f66.results.toList (.pair lY (.pair lY tE)) [none, some 49]
noncomputable def zono_middles_k0 (κ : Kt (.pair lY (.pair lY tE))) (a : Int) (b c : List dY) (d : List dS) (e f : Int) := κ { t := (upd (upd (upd (upd (upd (upd (fun _ => .undef) 1 (.one (.int .i64 a))) 7 (.one (.own 100))) 8 (.one (.own 101))) 20 (.one (.sl tS d))) 21 (.one (.int .i64 e))) 22 (.one (.int .i64 f))), m := (upd (upd (upd (fun _ => .free) 0 .held) 100 (.row true 49 tY b)) 101 (.row true 49 tY c)), nx := 1000000, n := 67 }
noncomputable def zono_middles_A0 (K : Nat) := loopAt Γ_zono_middles K [.r, .r, .l, .r, .b] zono_middles_c [] zono_middles_fin (fun _ _ => none) zono_middles_fin
theorem zono_middles_loop0 (K : Nat) : ∀ n, zono_middles_k0 (zono_middles_A0 K n) = zono_middles_l0 K n
  | 0 => by kernel_rfl
  | n + 1 => Eq.trans (b := zono_middles_s0 (zono_middles_k0 (zono_middles_A0 K n))) (by kernel_rfl) (by rw [zono_middles_loop0 K n]; rfl)
theorem zono_middles_eq (K : Nat) (s : List dS) (bits : Int) : exF Γ_zono_middles K Tryz.f66 (.pair lS tE) (.pair lY (.pair lY tE)) [none, some 49] (s, bits, ()) = zono_middles K s bits :=
  Eq.trans (b := zono_middles_b (zono_middles_k0 (zono_middles_A0 K K)) s bits) (by kernel_rfl) (by rw [zono_middles_loop0 K K]; rfl)
theorem env_zono_middles : EnvOK Tryz.prog G Γ_zono_middles := ⟨T_ok, ((phi_cons fn_span_Point (phi_cons fn_span_Size (phi_cons fn_span_Middle (phi_cons fn_dyad_Round (phi_cons fn_span_Sub phi_nil))))) : PhiOK Tryz.prog G Γ_zono_middles.Φ), fun _ _ h => (by cases h), mixed⟩
theorem fn_zono_middles : FnOK Tryz.prog G 66 en_zono_middles := FnOK.of env_zono_middles Tryz.func66 (by kernel_rfl) (by kernel_rfl) (of_decide_eq_true (by kernel_rfl)) (fun x y h => ⟨100, (zono_middles_eq 100 x.1 x.2.1).trans h⟩)

noncomputable def Γ_zono_list : Env := { T := T, Φ := fun i => bif Nat.beq i 12 then some en_vec_Near else bif Nat.beq i 66 then some en_zono_middles else none, ann := fun i => [] }
theorem zono_list_eq (K : Nat) (x : List dR) (bits : Int) : exF Γ_zono_list K Tryz.f47 (.pair lR tE) (.pair lY (.pair lY tE)) [none, some 49] (x, bits, ()) = zono_list x bits := by kernel_rfl
theorem env_zono_list : EnvOK Tryz.prog G Γ_zono_list := ⟨T_ok, ((phi_cons fn_vec_Near (phi_cons fn_zono_middles phi_nil)) : PhiOK Tryz.prog G Γ_zono_list.Φ), fun _ _ h => (by cases h), mixed⟩
theorem fn_zono_list : FnOK Tryz.prog G 47 en_zono_list := FnOK.of env_zono_list Tryz.func47 (by kernel_rfl) (by kernel_rfl) (of_decide_eq_true (by kernel_rfl)) (fun x y h => ⟨0, (zono_list_eq 0 x.1 x.2.1).trans h⟩)

noncomputable def Γ_zono_wider : Env := { T := T, Φ := fun i => bif Nat.beq i 25 then some en_span_Point else bif Nat.beq i 57 then some en_span_Add else none, ann := fun i => bif Nat.beq i 3 then [(0, .c (.data tY)), (1, .c (.data tY)), (2, .c .sc), (8, .c (.own 100 49 tY)), (16, .c .sc), (17, .c .sc)] else [], ord := fun i => bif Nat.beq i 5 then [0, 1, 2, 3, 5, 6, 7, 8, 10, 4, 9, 11, 12, 13, 14, 15, 16, 17] else [] }
noncomputable def zono_wider_c : Code := (Tryz.f48.body).getD .skip
noncomputable def zono_wider_fin := finish Γ_zono_wider Tryz.f48.results.toList (.pair lY tE) [some 49]
noncomputable def zono_wider_k0 (κ : Kt (.pair lY tE)) (a b : List dY) (c : Int) (d : List dY) (e f : Int) := κ { t := (upd (upd (upd (upd (upd (upd (fun _ => .undef) 0 (.one (.sl tY a))) 1 (.one (.sl tY b))) 2 (.one (.int .i64 c))) 8 (.one (.own 100))) 16 (.one (.int .i64 e))) 17 (.one (.int .i64 f))), m := (upd (upd (fun _ => .free) 0 .held) 100 (.row true 49 tY d)), nx := 1000000, n := 45 }
noncomputable def zono_wider_A0 (K : Nat) := loopAt Γ_zono_wider K [.r, .r, .l, .r, .b] zono_wider_c [] zono_wider_fin (fun _ _ => none) zono_wider_fin
theorem zono_wider_loop0 (K : Nat) : ∀ n, zono_wider_k0 (zono_wider_A0 K n) = zono_wider_l0 K n
  | 0 => by kernel_rfl
  | n + 1 => Eq.trans (b := zono_wider_s0 (zono_wider_k0 (zono_wider_A0 K n))) (by kernel_rfl) (by rw [zono_wider_loop0 K n]; rfl)
theorem zono_wider_eq (K : Nat) (a : List dY) (b : List dY) (bits : Int) : exF Γ_zono_wider K Tryz.f48 (.pair lY (.pair lY tE)) (.pair lY tE) [some 49] (a, b, bits, ()) = zono_wider K a b bits :=
  Eq.trans (b := zono_wider_b (zono_wider_k0 (zono_wider_A0 K K)) a b bits) (by kernel_rfl) (by rw [zono_wider_loop0 K K]; rfl)
theorem env_zono_wider : EnvOK Tryz.prog G Γ_zono_wider := ⟨T_ok, ((phi_cons fn_span_Point (phi_cons fn_span_Add phi_nil)) : PhiOK Tryz.prog G Γ_zono_wider.Φ), fun _ _ h => (by cases h), mixed⟩
theorem fn_zono_wider : FnOK Tryz.prog G 48 en_zono_wider := FnOK.of env_zono_wider Tryz.func48 (by kernel_rfl) (by kernel_rfl) (of_decide_eq_true (by kernel_rfl)) (fun x y h => ⟨100, (zono_wider_eq 100 x.1 x.2.1 x.2.2.1).trans h⟩)

noncomputable def Γ_zono_Of : Env := { T := T, Φ := fun i => bif Nat.beq i 47 then some en_zono_list else bif Nat.beq i 48 then some en_zono_wider else none, ann := fun i => bif Nat.beq i 6 then [(1, .c .sc), (4, .var 100 [.data tY, .data lY, .data tY]), (6, .c (.data tY)), (9, .var 103 [.data tY, .own 101 29 lY, .own 102 49 tY]), (31, .c (.data lR)), (32, .c .sc), (33, .c .sc)] else [] }
noncomputable def zono_Of_c : Code := (Tryz.f11.body).getD .skip
noncomputable def zono_Of_fin := finish Γ_zono_Of Tryz.f11.results.toList (.pair tZ tE) []
noncomputable def zono_Of_k0 (κ : Kt (.pair tZ tE)) (a : Int) (b : List dY) (c : List (List dY)) (d e f : List dY) (g : List (List dY)) (h : List dY) (i : List (List dR)) (j k : Int) := κ { t := (upd (upd (upd (upd (upd (upd (upd (fun _ => .undef) 1 (.one (.int .i64 a))) 4 (.one (.vptr 100 0))) 6 (.one (.sl tY e))) 9 (.one (.vptr 103 0))) 31 (.one (.sl lR i))) 32 (.one (.int .i64 j))) 33 (.one (.int .i64 k))), m := (upd (upd (upd (upd (upd (fun _ => .free) 0 .held) 100 (.var true [.sl tY b, .sl lY c, .sl tY d])) 101 (.row true 29 lY g)) 102 (.row true 49 tY h)) 103 (.var true [.sl tY f, .own 101, .own 102])), nx := 1000000, n := 75 }
noncomputable def zono_Of_A0 (K : Nat) := loopAt Γ_zono_Of K [.r, .r, .r, .r, .l, .r, .b] zono_Of_c [] zono_Of_fin (fun _ _ => none) zono_Of_fin
theorem zono_Of_loop0 (K : Nat) : ∀ n, zono_Of_k0 (zono_Of_A0 K n) = zono_Of_l0 K n
  | 0 => by kernel_rfl
  | n + 1 => Eq.trans (b := zono_Of_s0 (zono_Of_k0 (zono_Of_A0 K n))) (by kernel_rfl) (by rw [zono_Of_loop0 K n]; rfl)
theorem zono_Of_eq (K : Nat) (z : dV) (bits : Int) : exF Γ_zono_Of K Tryz.f11 (.pair tV tE) (.pair tZ tE) [] (z, bits, ()) = zono_Of K z bits :=
  Eq.trans (b := zono_Of_b (zono_Of_k0 (zono_Of_A0 K K)) z bits) (by kernel_rfl) (by rw [zono_Of_loop0 K K]; rfl)
theorem env_zono_Of : EnvOK Tryz.prog G Γ_zono_Of := ⟨T_ok, ((phi_cons fn_zono_list (phi_cons fn_zono_wider phi_nil)) : PhiOK Tryz.prog G Γ_zono_Of.Φ), fun _ _ h => (by cases h), mixed⟩
theorem fn_zono_Of : FnOK Tryz.prog G 11 en_zono_Of := FnOK.of env_zono_Of Tryz.func11 (by kernel_rfl) (by kernel_rfl) (of_decide_eq_true (by kernel_rfl)) (fun x y h => ⟨100, (zono_Of_eq 100 x.1 x.2.1).trans h⟩)

noncomputable def Γ_ratio_Zero : Env := { T := T, Φ := fun i => bif Nat.beq i 76 then some en_limbs_Of else none, ann := fun i => [] }
theorem ratio_Zero_eq (K : Nat)  : exF Γ_ratio_Zero K Tryz.f34 .unit (.pair tR .unit) [] (()) = ratio_Zero := by kernel_rfl
theorem env_ratio_Zero : EnvOK Tryz.prog G Γ_ratio_Zero := ⟨T_ok, ((phi_cons fn_limbs_Of phi_nil) : PhiOK Tryz.prog G Γ_ratio_Zero.Φ), fun _ _ h => (by cases h), mixed⟩
theorem fn_ratio_Zero : FnOK Tryz.prog G 34 en_ratio_Zero := FnOK.of env_ratio_Zero Tryz.func34 (by kernel_rfl) (by kernel_rfl) (of_decide_eq_true (by kernel_rfl)) (fun x y h => ⟨0, (ratio_Zero_eq 0 ).trans h⟩)

noncomputable def Γ_digits_Gcd : Env := { T := T, Φ := fun i => bif Nat.beq i 75 then some en_slices_Clone_api_Nat_uint32 else bif Nat.beq i 88 then some en_limbs_Div else none, ann := fun i => bif Nat.beq i 1 then [(0, .c (.data (.int .u32))), (1, .c (.data (.int .u32)))] else [] }
noncomputable def digits_Gcd_c : Code := (Tryz.f87.body).getD .skip
noncomputable def digits_Gcd_fin := finish Γ_digits_Gcd Tryz.f87.results.toList (.pair lU .unit) []
noncomputable def digits_Gcd_k0 (κ : Kt (.pair lU .unit)) (a b : List Int) := κ { t := (upd (upd (fun _ => .undef) 0 (.one (.sl (.int .u32) a))) 1 (.one (.sl (.int .u32) b))), m := (upd (fun _ => .free) 0 .held), nx := 1000000, n := 22 }
noncomputable def digits_Gcd_A0 (K : Nat) := loopAt Γ_digits_Gcd K [.r, .l, .b] digits_Gcd_c [] digits_Gcd_fin (fun _ _ => none) digits_Gcd_fin
theorem digits_Gcd_loop0 (K : Nat) : ∀ n, digits_Gcd_k0 (digits_Gcd_A0 K n) = digits_Gcd_l0 K n
  | 0 => by kernel_rfl
  | n + 1 => Eq.trans (b := digits_Gcd_s0 (digits_Gcd_k0 (digits_Gcd_A0 K n))) (by kernel_rfl) (by rw [digits_Gcd_loop0 K n]; rfl)
theorem digits_Gcd_eq (K : Nat) (a : List Int) (b : List Int) : exF Γ_digits_Gcd K Tryz.f87 (.pair lU (.pair lU .unit)) (.pair lU .unit) [] (a, b, ()) = digits_Gcd K a b :=
  Eq.trans (b := digits_Gcd_b (digits_Gcd_k0 (digits_Gcd_A0 K K)) a b) (by kernel_rfl) (by rw [digits_Gcd_loop0 K K]; rfl)
theorem env_digits_Gcd : EnvOK Tryz.prog G Γ_digits_Gcd := ⟨T_ok, ((phi_cons fn_slices_Clone_api_Nat_uint32 (phi_cons fn_limbs_Div phi_nil)) : PhiOK Tryz.prog G Γ_digits_Gcd.Φ), fun _ _ h => (by cases h), mixed⟩
theorem fn_digits_Gcd : FnOK Tryz.prog G 87 en_digits_Gcd := FnOK.of env_digits_Gcd Tryz.func87 (by kernel_rfl) (by kernel_rfl) (of_decide_eq_true (by kernel_rfl)) (fun x y h => by obtain ⟨K, hK⟩ := digits_Gcd_ok x y h; exact ⟨K, (digits_Gcd_eq K x.1 x.2.1).trans hK⟩)

noncomputable def Γ_ratio_Make : Env := { T := T, Φ := fun i => bif Nat.beq i 34 then some en_ratio_Zero else bif Nat.beq i 64 then some en_whole_Sign else bif Nat.beq i 87 then some en_digits_Gcd else bif Nat.beq i 88 then some en_limbs_Div else none, ann := fun i => [] }
theorem ratio_Make_eq (K : Nat) (num : dI) (den : dI) : exF Γ_ratio_Make K Tryz.f53 (.pair tI (.pair tI .unit)) (.pair tR tE) [] (num, den, ()) = ratio_Make num den := by kernel_rfl
theorem env_ratio_Make : EnvOK Tryz.prog G Γ_ratio_Make := ⟨T_ok, ((phi_cons fn_ratio_Zero (phi_cons fn_whole_Sign (phi_cons fn_digits_Gcd (phi_cons fn_limbs_Div phi_nil)))) : PhiOK Tryz.prog G Γ_ratio_Make.Φ), fun _ _ h => (by cases h), mixed⟩
theorem fn_ratio_Make : FnOK Tryz.prog G 53 en_ratio_Make := FnOK.of env_ratio_Make Tryz.func53 (by kernel_rfl) (by kernel_rfl) (of_decide_eq_true (by kernel_rfl)) (fun x y h => ⟨0, (ratio_Make_eq 0 x.1 x.2.1).trans h⟩)

noncomputable def Γ_ratio_Of : Env := { T := T, Φ := fun i => bif Nat.beq i 53 then some en_ratio_Make else bif Nat.beq i 54 then some en_whole_Of else none, ann := fun i => [] }
theorem ratio_Of_eq (K : Nat) (num : Int) (den : Int) : exF Γ_ratio_Of K Tryz.f14 (.pair (.int .i64) tE) (.pair tR .unit) [] (num, den, ()) = ratio_Of num den := by kernel_rfl
theorem env_ratio_Of : EnvOK Tryz.prog G Γ_ratio_Of := ⟨T_ok, ((phi_cons fn_ratio_Make (phi_cons fn_whole_Of phi_nil)) : PhiOK Tryz.prog G Γ_ratio_Of.Φ), fun _ _ h => (by cases h), mixed⟩
theorem fn_ratio_Of : FnOK Tryz.prog G 14 en_ratio_Of := FnOK.of env_ratio_Of Tryz.func14 (by kernel_rfl) (by kernel_rfl) (of_decide_eq_true (by kernel_rfl)) (fun x y h => ⟨0, (ratio_Of_eq 0 x.1 x.2.1).trans h⟩)

noncomputable def Γ_dyad_Min : Env := { T := T, Φ := fun i => bif Nat.beq i 22 then some en_dyad_Less else bif Nat.beq i 117 then some en_dyad_own else none, ann := fun i => [] }
theorem dyad_Min_eq (K : Nat) (a : dY) (b : dY) : exF Γ_dyad_Min K Tryz.f93 tS (.pair tY .unit) [] (a, b, ()) = dyad_Min a b := by kernel_rfl
theorem env_dyad_Min : EnvOK Tryz.prog G Γ_dyad_Min := ⟨T_ok, ((phi_cons fn_dyad_Less (phi_cons fn_dyad_own phi_nil)) : PhiOK Tryz.prog G Γ_dyad_Min.Φ), fun _ _ h => (by cases h), mixed⟩
theorem fn_dyad_Min : FnOK Tryz.prog G 93 en_dyad_Min := FnOK.of env_dyad_Min Tryz.func93 (by kernel_rfl) (by kernel_rfl) (of_decide_eq_true (by kernel_rfl)) (fun x y h => ⟨0, (dyad_Min_eq 0 x.1 x.2.1).trans h⟩)

noncomputable def Γ_span_Mul : Env := { T := T, Φ := fun i => bif Nat.beq i 90 then some en_span_out else bif Nat.beq i 91 then some en_dyad_Max else bif Nat.beq i 92 then some en_dyad_Mul else bif Nat.beq i 93 then some en_dyad_Min else none, ann := fun i => [], ord := fun i => bif Nat.beq i 9 then [0, 1, 2, 3] else bif Nat.beq i 10 then [0, 1, 3, 4, 2, 5, 6, 7] else [] }
theorem span_Mul_eq (K : Nat) (a : dS) (b : dS) (bits : Int) : exF Γ_span_Mul K Tryz.f59 (.pair tS (.pair tS tE)) (.pair tS tE) [] (a, b, bits, ()) = span_Mul a b bits := by kernel_rfl
theorem env_span_Mul : EnvOK Tryz.prog G Γ_span_Mul := ⟨T_ok, ((phi_cons fn_span_out (phi_cons fn_dyad_Max (phi_cons fn_dyad_Mul (phi_cons fn_dyad_Min phi_nil)))) : PhiOK Tryz.prog G Γ_span_Mul.Φ), fun _ _ h => (by cases h), mixed⟩
theorem fn_span_Mul : FnOK Tryz.prog G 59 en_span_Mul := FnOK.of env_span_Mul Tryz.func59 (by kernel_rfl) (by kernel_rfl) (of_decide_eq_true (by kernel_rfl)) (fun x y h => ⟨0, (span_Mul_eq 0 x.1 x.2.1 x.2.2.1).trans h⟩)

noncomputable def Γ_vec_Inner : Env := { T := T, Φ := fun i => bif Nat.beq i 57 then some en_span_Add else bif Nat.beq i 59 then some en_span_Mul else none, ann := fun i => bif Nat.beq i 5 then [(0, .c (.data tS)), (1, .c (.data tS)), (2, .c .sc), (6, .var 100 [.sc, .data (.int .u32), .sc, .sc, .data (.int .u32), .sc]), (8, .var 101 [.sc, .data (.int .u32), .sc, .sc, .data (.int .u32), .sc]), (19, .c .sc), (20, .c .sc)] else [], ord := fun i => bif Nat.beq i 7 then [0, 1, 2, 3, 4, 5, 6, 7, 8, 9, 10, 11, 12, 13, 14, 15] else [] }
noncomputable def vec_Inner_c : Code := (Tryz.f55.body).getD .skip
noncomputable def vec_Inner_fin := finish Γ_vec_Inner Tryz.f55.results.toList (.pair tS tE) []
noncomputable def vec_Inner_k0 (κ : Kt (.pair tS tE)) (a b : List dS) (c : Int) (d : Bool) (e : List Int) (f : Int) (g : Bool) (h : List Int) (i : Int) (j : Bool) (k : List Int) (l : Int) (o : Bool) (p : List Int) (q r s : Int) := κ { t := (upd (upd (upd (upd (upd (upd (upd (fun _ => .undef) 0 (.one (.sl tS a))) 1 (.one (.sl tS b))) 2 (.one (.int .i64 c))) 6 (.one (.vptr 100 0))) 8 (.one (.vptr 101 0))) 19 (.one (.int .i64 r))) 20 (.one (.int .i64 s))), m := (upd (upd (upd (fun _ => .free) 0 .held) 100 (.var true [.bool d, .sl (.int .u32) e, .int .i64 f, .bool g, .sl (.int .u32) h, .int .i64 i])) 101 (.var true [.bool j, .sl (.int .u32) k, .int .i64 l, .bool o, .sl (.int .u32) p, .int .i64 q])), nx := 1000000, n := 53 }
noncomputable def vec_Inner_A0 (K : Nat) := loopAt Γ_vec_Inner K [.r, .r, .r, .l, .r, .b] vec_Inner_c [] vec_Inner_fin (fun _ _ => none) vec_Inner_fin
theorem vec_Inner_loop0 (K : Nat) : ∀ n, vec_Inner_k0 (vec_Inner_A0 K n) = vec_Inner_l0 K n
  | 0 => by kernel_rfl
  | n + 1 => Eq.trans (b := vec_Inner_s0 (vec_Inner_k0 (vec_Inner_A0 K n))) (by kernel_rfl) (by rw [vec_Inner_loop0 K n]; rfl)
theorem vec_Inner_eq (K : Nat) (a : List dS) (b : List dS) (bits : Int) : exF Γ_vec_Inner K Tryz.f55 (.pair lS (.pair lS tE)) (.pair tS tE) [] (a, b, bits, ()) = vec_Inner K a b bits :=
  Eq.trans (b := vec_Inner_b (vec_Inner_k0 (vec_Inner_A0 K K)) a b bits) (by kernel_rfl) (by rw [vec_Inner_loop0 K K]; rfl)
theorem env_vec_Inner : EnvOK Tryz.prog G Γ_vec_Inner := ⟨T_ok, ((phi_cons fn_span_Add (phi_cons fn_span_Mul phi_nil)) : PhiOK Tryz.prog G Γ_vec_Inner.Φ), fun _ _ h => (by cases h), mixed⟩
theorem fn_vec_Inner : FnOK Tryz.prog G 55 en_vec_Inner := FnOK.of env_vec_Inner Tryz.func55 (by kernel_rfl) (by kernel_rfl) (of_decide_eq_true (by kernel_rfl)) (fun x y h => ⟨100, (vec_Inner_eq 100 x.1 x.2.1 x.2.2.1).trans h⟩)

noncomputable def Γ_zono_points : Env := { T := T, Φ := fun i => bif Nat.beq i 25 then some en_span_Point else none, ann := fun i => bif Nat.beq i 3 then [(3, .c (.own 100 65 tS)), (9, .c (.data tY)), (10, .c .sc), (11, .c .sc)] else [] }
noncomputable def zono_points_c : Code := (Tryz.f56.body).getD .skip
noncomputable def zono_points_fin := finish Γ_zono_points Tryz.f56.results.toList (.pair lS .unit) []
noncomputable def zono_points_k0 (κ : Kt (.pair lS .unit)) (a : List dS) (b : List dY) (c d : Int) := κ { t := (upd (upd (upd (upd (fun _ => .undef) 3 (.one (.own 100))) 9 (.one (.sl tY b))) 10 (.one (.int .i64 c))) 11 (.one (.int .i64 d))), m := (upd (upd (fun _ => .free) 0 .held) 100 (.row true 65 tS a)), nx := 1000000, n := 23 }
noncomputable def zono_points_A0 (K : Nat) := loopAt Γ_zono_points K [.r, .r, .l, .r, .b] zono_points_c [] zono_points_fin (fun _ _ => none) zono_points_fin
theorem zono_points_loop0 (K : Nat) : ∀ n, zono_points_k0 (zono_points_A0 K n) = zono_points_l0 K n
  | 0 => by kernel_rfl
  | n + 1 => Eq.trans (b := zono_points_s0 (zono_points_k0 (zono_points_A0 K n))) (by kernel_rfl) (by rw [zono_points_loop0 K n]; rfl)
theorem zono_points_eq (K : Nat) (x : List dY) : exF Γ_zono_points K Tryz.f56 (.pair lY .unit) (.pair lS .unit) [] (x, ()) = zono_points K x :=
  Eq.trans (b := zono_points_b (zono_points_k0 (zono_points_A0 K K)) x) (by kernel_rfl) (by rw [zono_points_loop0 K K]; rfl)
theorem env_zono_points : EnvOK Tryz.prog G Γ_zono_points := ⟨T_ok, ((phi_cons fn_span_Point phi_nil) : PhiOK Tryz.prog G Γ_zono_points.Φ), fun _ _ h => (by cases h), mixed⟩
theorem fn_zono_points : FnOK Tryz.prog G 56 en_zono_points := FnOK.of env_zono_points Tryz.func56 (by kernel_rfl) (by kernel_rfl) (of_decide_eq_true (by kernel_rfl)) (fun x y h => ⟨100, (zono_points_eq 100 x.1).trans h⟩)

noncomputable def Γ_zono_Support : Env := { T := T, Φ := fun i => bif Nat.beq i 25 then some en_span_Point else bif Nat.beq i 55 then some en_vec_Inner else bif Nat.beq i 56 then some en_zono_points else bif Nat.beq i 57 then some en_span_Add else bif Nat.beq i 58 then some en_span_Size else bif Nat.beq i 59 then some en_span_Mul else none, ann := fun i => bif Nat.beq i 5 then [(1, .c (.data tS)), (2, .c .sc), (3, .var 100 [.data tY, .data lY, .data tY]), (6, .var 101 [.sc, .data (.int .u32), .sc]), (8, .var 102 [.sc, .data (.int .u32), .sc, .sc, .data (.int .u32), .sc]), (32, .c (.data lY)), (33, .c .sc), (34, .c .sc)] else bif Nat.beq i 15 then [(1, .c (.data tS)), (2, .c .sc), (6, .var 100 [.sc, .data (.int .u32), .sc]), (8, .var 101 [.sc, .data (.int .u32), .sc, .sc, .data (.int .u32), .sc]), (65, .c (.data tY)), (66, .c .sc), (67, .c .sc)] else [], ord := fun i => bif Nat.beq i 10 then [0, 1, 4, 2, 3, 5, 6, 7, 8, 9, 10] else bif Nat.beq i 17 then [0, 2, 3, 4, 5, 8, 1, 6, 7, 9, 10, 11, 12, 13, 14, 15] else [] }
noncomputable def zono_Support_c : Code := (Tryz.f15.body).getD .skip
noncomputable def zono_Support_fin := finish Γ_zono_Support Tryz.f15.results.toList (.pair tY tE) []
noncomputable def zono_Support_k0 (κ : Kt (.pair tY tE)) (a : List dS) (b : Int) (c : List dY) (d : List (List dY)) (e : List dY) (f : Bool) (g : List Int) (h : Int) (i : Bool) (j : List Int) (k : Int) (l : Bool) (o : List Int) (p : Int) (q : List (List dY)) (r s : Int) := κ { t := (upd (upd (upd (upd (upd (upd (upd (upd (fun _ => .undef) 1 (.one (.sl tS a))) 2 (.one (.int .i64 b))) 3 (.one (.vptr 100 0))) 6 (.one (.vptr 101 0))) 8 (.one (.vptr 102 0))) 32 (.one (.sl lY q))) 33 (.one (.int .i64 r))) 34 (.one (.int .i64 s))), m := (upd (upd (upd (upd (fun _ => .free) 0 .held) 100 (.var true [.sl tY c, .sl lY d, .sl tY e])) 101 (.var true [.bool f, .sl (.int .u32) g, .int .i64 h])) 102 (.var true [.bool i, .sl (.int .u32) j, .int .i64 k, .bool l, .sl (.int .u32) o, .int .i64 p])), nx := 1000000, n := 103 }
noncomputable def zono_Support_k1 (κ : Kt (.pair tY tE)) (a : List dS) (b : Int) (c : Bool) (d : List Int) (e : Int) (f : Bool) (g : List Int) (h : Int) (i : Bool) (j : List Int) (k : Int) (l : List dY) (o p : Int) := κ { t := (upd (upd (upd (upd (upd (upd (upd (fun _ => .undef) 1 (.one (.sl tS a))) 2 (.one (.int .i64 b))) 6 (.one (.vptr 100 0))) 8 (.one (.vptr 101 0))) 65 (.one (.sl tY l))) 66 (.one (.int .i64 o))) 67 (.one (.int .i64 p))), m := (upd (upd (upd (fun _ => .free) 0 .held) 100 (.var true [.bool c, .sl (.int .u32) d, .int .i64 e])) 101 (.var true [.bool f, .sl (.int .u32) g, .int .i64 h, .bool i, .sl (.int .u32) j, .int .i64 k])), nx := 1000000, n := 103 }
noncomputable def zono_Support_A1 (K : Nat) (κ0 : Kt (.pair tY tE)) := loopAt Γ_zono_Support K [.r, .r, .r, .r, .l, .r, .b] zono_Support_c [] zono_Support_fin (fun _ _ => none) zono_Support_fin
theorem zono_Support_loop1 (K : Nat) (κ0 : Kt (.pair tY tE)) : ∀ n, zono_Support_k1 (zono_Support_A1 K κ0 n) = zono_Support_l1 K (zono_Support_k0 κ0) n
  | 0 => by kernel_rfl
  | n + 1 => Eq.trans (b := zono_Support_s1 (zono_Support_k0 κ0) (zono_Support_k1 (zono_Support_A1 K κ0 n))) (by kernel_rfl) (by rw [zono_Support_loop1 K κ0 n]; rfl)
noncomputable def zono_Support_A0 (K : Nat) := loopAt Γ_zono_Support K [.r, .r, .r, .l, .r, .b] zono_Support_c [] zono_Support_fin (fun _ _ => none) zono_Support_fin
theorem zono_Support_loop0 (K : Nat) : ∀ n, zono_Support_k0 (zono_Support_A0 K n) = zono_Support_l0 K n
  | 0 => by kernel_rfl
  | n + 1 => Eq.trans (b := zono_Support_s0 (zono_Support_k1 (zono_Support_A1 K (zono_Support_A0 K n) K)) (zono_Support_k0 (zono_Support_A0 K n))) (by kernel_rfl) (by rw [zono_Support_loop1 K (zono_Support_A0 K n) K, zono_Support_loop0 K n]; rfl)
theorem zono_Support_eq (K : Nat) (z : dZ) (dir : List dS) (bits : Int) : exF Γ_zono_Support K Tryz.f15 (.pair tZ (.pair lS tE)) (.pair tY tE) [] (z, dir, bits, ()) = zono_Support K z dir bits :=
  Eq.trans (b := zono_Support_b (zono_Support_k0 (zono_Support_A0 K K)) z dir bits) (by kernel_rfl) (by rw [zono_Support_loop0 K K]; rfl)
theorem env_zono_Support : EnvOK Tryz.prog G Γ_zono_Support := ⟨T_ok, ((phi_cons fn_span_Point (phi_cons fn_vec_Inner (phi_cons fn_zono_points (phi_cons fn_span_Add (phi_cons fn_span_Size (phi_cons fn_span_Mul phi_nil)))))) : PhiOK Tryz.prog G Γ_zono_Support.Φ), fun _ _ h => (by cases h), mixed⟩
theorem fn_zono_Support : FnOK Tryz.prog G 15 en_zono_Support := FnOK.of env_zono_Support Tryz.func15 (by kernel_rfl) (by kernel_rfl) (of_decide_eq_true (by kernel_rfl)) (fun x y h => ⟨100, (zono_Support_eq 100 x.1 x.2.1 x.2.2.1).trans h⟩)

noncomputable def Γ_span_Even : Env := { T := T, Φ := fun i => bif Nat.beq i 67 then some en_dyad_Abs else bif Nat.beq i 100 then some en_dyad_Neg else none, ann := fun i => [], ord := fun i => bif Nat.beq i 2 then [0, 2, 1, 3, 4] else [] }
theorem span_Even_eq (K : Nat) (a : dY) : exF Γ_span_Even K Tryz.f63 (.pair tY .unit) (.pair tS .unit) [] (a, ()) = span_Even a := by kernel_rfl
theorem env_span_Even : EnvOK Tryz.prog G Γ_span_Even := ⟨T_ok, ((phi_cons fn_dyad_Abs (phi_cons fn_dyad_Neg phi_nil)) : PhiOK Tryz.prog G Γ_span_Even.Φ), fun _ _ h => (by cases h), mixed⟩
theorem fn_span_Even : FnOK Tryz.prog G 63 en_span_Even := FnOK.of env_span_Even Tryz.func63 (by kernel_rfl) (by kernel_rfl) (of_decide_eq_true (by kernel_rfl)) (fun x y h => ⟨0, (span_Even_eq 0 x.1).trans h⟩)

noncomputable def Γ_zono_Box : Env := { T := T, Φ := fun i => bif Nat.beq i 25 then some en_span_Point else bif Nat.beq i 57 then some en_span_Add else bif Nat.beq i 63 then some en_span_Even else none, ann := fun i => bif Nat.beq i 3 then [(1, .c .sc), (2, .var 100 [.data tY, .data lY, .data tY]), (6, .c (.own 101 65 tS)), (19, .c .sc), (20, .c .sc)] else bif Nat.beq i 7 then [(1, .c .sc), (2, .var 100 [.data tY, .data lY, .data tY]), (6, .c (.own 101 65 tS)), (7, .c .sc), (8, .var 102 [.sc, .data (.int .u32), .sc, .sc, .data (.int .u32), .sc]), (19, .c .sc), (20, .c .sc), (30, .c (.data lY)), (31, .c .sc), (32, .c .sc)] else [], ord := fun i => bif Nat.beq i 10 then [0, 1, 2, 3, 4, 6, 5, 7, 8, 9, 10, 11, 12] else bif Nat.beq i 14 then [0, 1, 2, 3, 4, 5, 7, 6, 8, 9, 10, 11, 12, 13, 14] else [] }
noncomputable def zono_Box_c : Code := (Tryz.f17.body).getD .skip
noncomputable def zono_Box_fin := finish Γ_zono_Box Tryz.f17.results.toList (.pair lS tE) []
noncomputable def zono_Box_k0 (κ : Kt (.pair lS tE)) (a : Int) (b : List dY) (c : List (List dY)) (d : List dY) (e : List dS) (f g : Int) := κ { t := (upd (upd (upd (upd (upd (fun _ => .undef) 1 (.one (.int .i64 a))) 2 (.one (.vptr 100 0))) 6 (.one (.own 101))) 19 (.one (.int .i64 f))) 20 (.one (.int .i64 g))), m := (upd (upd (upd (fun _ => .free) 0 .held) 100 (.var true [.sl tY b, .sl lY c, .sl tY d])) 101 (.row true 65 tS e)), nx := 1000000, n := 72 }
noncomputable def zono_Box_k1 (κ : Kt (.pair lS tE)) (a : Int) (b : List dY) (c : List (List dY)) (d : List dY) (e : List dS) (f : Int) (g : Bool) (h : List Int) (i : Int) (j : Bool) (k : List Int) (l o p : Int) (q : List (List dY)) (r s : Int) := κ { t := (upd (upd (upd (upd (upd (upd (upd (upd (upd (upd (fun _ => .undef) 1 (.one (.int .i64 a))) 2 (.one (.vptr 100 0))) 6 (.one (.own 101))) 7 (.one (.int .i64 f))) 8 (.one (.vptr 102 0))) 19 (.one (.int .i64 o))) 20 (.one (.int .i64 p))) 30 (.one (.sl lY q))) 31 (.one (.int .i64 r))) 32 (.one (.int .i64 s))), m := (upd (upd (upd (upd (fun _ => .free) 0 .held) 100 (.var true [.sl tY b, .sl lY c, .sl tY d])) 101 (.row true 65 tS e)) 102 (.var true [.bool g, .sl (.int .u32) h, .int .i64 i, .bool j, .sl (.int .u32) k, .int .i64 l])), nx := 1000000, n := 72 }
noncomputable def zono_Box_A1 (K : Nat) (κ0 : Kt (.pair lS tE)) := loopAt Γ_zono_Box K [.r, .r, .l, .r, .b, .c, .r, .r, .l, .b, .r, .r, .l, .r, .b] zono_Box_c [fun st => mask [(1, .c .sc), (2, .var 100 [.data tY, .data lY, .data tY]), (6, .c (.own 101 65 tS)), (19, .c .sc), (20, .c .sc)] 1000000 st (κ0)] zono_Box_fin (fun _ _ => none) zono_Box_fin
theorem zono_Box_loop1 (K : Nat) (κ0 : Kt (.pair lS tE)) : ∀ n, zono_Box_k1 (zono_Box_A1 K κ0 n) = zono_Box_l1 K (zono_Box_k0 κ0) n
  | 0 => by kernel_rfl
  | n + 1 => Eq.trans (b := zono_Box_s1 (zono_Box_k0 κ0) (zono_Box_k1 (zono_Box_A1 K κ0 n))) (by kernel_rfl) (by rw [zono_Box_loop1 K κ0 n]; rfl)
noncomputable def zono_Box_A0 (K : Nat) := loopAt Γ_zono_Box K [.r, .r, .l, .r, .b] zono_Box_c [] zono_Box_fin (fun _ _ => none) zono_Box_fin
theorem zono_Box_loop0 (K : Nat) : ∀ n, zono_Box_k0 (zono_Box_A0 K n) = zono_Box_l0 K n
  | 0 => by kernel_rfl
  | n + 1 => Eq.trans (b := zono_Box_s0 (zono_Box_k1 (zono_Box_A1 K (zono_Box_A0 K n) K)) (zono_Box_k0 (zono_Box_A0 K n))) (by kernel_rfl) (by rw [zono_Box_loop1 K (zono_Box_A0 K n) K, zono_Box_loop0 K n]; rfl)
theorem zono_Box_eq (K : Nat) (z : dZ) (bits : Int) : exF Γ_zono_Box K Tryz.f17 (.pair tZ tE) (.pair lS tE) [] (z, bits, ()) = zono_Box K z bits :=
  Eq.trans (b := zono_Box_b (zono_Box_k0 (zono_Box_A0 K K)) z bits) (by kernel_rfl) (by rw [zono_Box_loop0 K K]; rfl)
theorem env_zono_Box : EnvOK Tryz.prog G Γ_zono_Box := ⟨T_ok, ((phi_cons fn_span_Point (phi_cons fn_span_Add (phi_cons fn_span_Even phi_nil))) : PhiOK Tryz.prog G Γ_zono_Box.Φ), fun _ _ h => (by cases h), mixed⟩
theorem fn_zono_Box : FnOK Tryz.prog G 17 en_zono_Box := FnOK.of env_zono_Box Tryz.func17 (by kernel_rfl) (by kernel_rfl) (of_decide_eq_true (by kernel_rfl)) (fun x y h => ⟨100, (zono_Box_eq 100 x.1 x.2.1).trans h⟩)

noncomputable def Γ_vec_Plus : Env := { T := T, Φ := fun i => bif Nat.beq i 57 then some en_span_Add else none, ann := fun i => bif Nat.beq i 5 then [(0, .c (.data tS)), (1, .c (.data tS)), (2, .c .sc), (8, .c (.own 100 65 tS)), (21, .c .sc), (22, .c .sc)] else [], ord := fun i => bif Nat.beq i 7 then [0, 1, 2, 3, 4, 5, 6, 7, 8, 9, 10, 11, 12, 13, 14, 15] else [] }
noncomputable def vec_Plus_c : Code := (Tryz.f65.body).getD .skip
noncomputable def vec_Plus_fin := finish Γ_vec_Plus Tryz.f65.results.toList (.pair lS tE) []
noncomputable def vec_Plus_k0 (κ : Kt (.pair lS tE)) (a b : List dS) (c : Int) (d : List dS) (e f : Int) := κ { t := (upd (upd (upd (upd (upd (upd (fun _ => .undef) 0 (.one (.sl tS a))) 1 (.one (.sl tS b))) 2 (.one (.int .i64 c))) 8 (.one (.own 100))) 21 (.one (.int .i64 e))) 22 (.one (.int .i64 f))), m := (upd (upd (fun _ => .free) 0 .held) 100 (.row true 65 tS d)), nx := 1000000, n := 47 }
noncomputable def vec_Plus_A0 (K : Nat) := loopAt Γ_vec_Plus K [.r, .r, .r, .l, .r, .b] vec_Plus_c [] vec_Plus_fin (fun _ _ => none) vec_Plus_fin
theorem vec_Plus_loop0 (K : Nat) : ∀ n, vec_Plus_k0 (vec_Plus_A0 K n) = vec_Plus_l0 K n
  | 0 => by kernel_rfl
  | n + 1 => Eq.trans (b := vec_Plus_s0 (vec_Plus_k0 (vec_Plus_A0 K n))) (by kernel_rfl) (by rw [vec_Plus_loop0 K n]; rfl)
theorem vec_Plus_eq (K : Nat) (a : List dS) (b : List dS) (bits : Int) : exF Γ_vec_Plus K Tryz.f65 (.pair lS (.pair lS tE)) (.pair lS tE) [] (a, b, bits, ()) = vec_Plus K a b bits :=
  Eq.trans (b := vec_Plus_b (vec_Plus_k0 (vec_Plus_A0 K K)) a b bits) (by kernel_rfl) (by rw [vec_Plus_loop0 K K]; rfl)
theorem env_vec_Plus : EnvOK Tryz.prog G Γ_vec_Plus := ⟨T_ok, ((phi_cons fn_span_Add phi_nil) : PhiOK Tryz.prog G Γ_vec_Plus.Φ), fun _ _ h => (by cases h), mixed⟩
theorem fn_vec_Plus : FnOK Tryz.prog G 65 en_vec_Plus := FnOK.of env_vec_Plus Tryz.func65 (by kernel_rfl) (by kernel_rfl) (of_decide_eq_true (by kernel_rfl)) (fun x y h => ⟨100, (vec_Plus_eq 100 x.1 x.2.1 x.2.2.1).trans h⟩)

noncomputable def Γ_zono_Add : Env := { T := T, Φ := fun i => bif Nat.beq i 48 then some en_zono_wider else bif Nat.beq i 56 then some en_zono_points else bif Nat.beq i 65 then some en_vec_Plus else bif Nat.beq i 66 then some en_zono_middles else none, ann := fun i => [], ord := fun i => bif Nat.beq i 5 then [0, 1, 3, 4, 6, 2, 5, 7, 8, 9, 10, 11, 12] else bif Nat.beq i 19 then [0, 1, 2, 3, 5, 6, 4, 7, 8, 9] else [] }
theorem zono_Add_eq (K : Nat) (a : dZ) (b : dZ) (bits : Int) : exF Γ_zono_Add K Tryz.f23 (.pair tZ (.pair tZ tE)) (.pair tZ tE) [] (a, b, bits, ()) = zono_Add a b bits := by kernel_rfl
theorem env_zono_Add : EnvOK Tryz.prog G Γ_zono_Add := ⟨T_ok, ((phi_cons fn_zono_wider (phi_cons fn_zono_points (phi_cons fn_vec_Plus (phi_cons fn_zono_middles phi_nil)))) : PhiOK Tryz.prog G Γ_zono_Add.Φ), fun _ _ h => (by cases h), mixed⟩
theorem fn_zono_Add : FnOK Tryz.prog G 23 en_zono_Add := FnOK.of env_zono_Add Tryz.func23 (by kernel_rfl) (by kernel_rfl) (of_decide_eq_true (by kernel_rfl)) (fun x y h => ⟨0, (zono_Add_eq 0 x.1 x.2.1 x.2.2.1).trans h⟩)

noncomputable def Γ_zono_image : Env := { T := T, Φ := fun i => bif Nat.beq i 55 then some en_vec_Inner else bif Nat.beq i 56 then some en_zono_points else bif Nat.beq i 66 then some en_zono_middles else none, ann := fun i => bif Nat.beq i 3 then [(1, .c (.data tY)), (2, .c .sc), (9, .c (.own 100 65 tS)), (17, .c (.data lS)), (18, .c .sc), (19, .c .sc)] else [] }
noncomputable def zono_image_c : Code := (Tryz.f79.body).getD .skip
noncomputable def zono_image_fin := finish Γ_zono_image Tryz.f79.results.toList (.pair lY (.pair lY tE)) [none, some 49]
noncomputable def zono_image_k0 (κ : Kt (.pair lY (.pair lY tE))) (a : List dY) (b : Int) (c : List dS) (d : List (List dS)) (e f : Int) := κ { t := (upd (upd (upd (upd (upd (upd (fun _ => .undef) 1 (.one (.sl tY a))) 2 (.one (.int .i64 b))) 9 (.one (.own 100))) 17 (.one (.sl lS d))) 18 (.one (.int .i64 e))) 19 (.one (.int .i64 f))), m := (upd (upd (fun _ => .free) 0 .held) 100 (.row true 65 tS c)), nx := 1000000, n := 46 }
noncomputable def zono_image_A0 (K : Nat) := loopAt Γ_zono_image K [.r, .r, .l, .r, .b] zono_image_c [] zono_image_fin (fun _ _ => none) zono_image_fin
theorem zono_image_loop0 (K : Nat) : ∀ n, zono_image_k0 (zono_image_A0 K n) = zono_image_l0 K n
  | 0 => by kernel_rfl
  | n + 1 => Eq.trans (b := zono_image_s0 (zono_image_k0 (zono_image_A0 K n))) (by kernel_rfl) (by rw [zono_image_loop0 K n]; rfl)
theorem zono_image_eq (K : Nat) (a : List (List dS)) (x : List dY) (bits : Int) : exF Γ_zono_image K Tryz.f79 (.pair (.sl lS) (.pair lY tE)) (.pair lY (.pair lY tE)) [none, some 49] (a, x, bits, ()) = zono_image K a x bits :=
  Eq.trans (b := zono_image_b (zono_image_k0 (zono_image_A0 K K)) a x bits) (by kernel_rfl) (by rw [zono_image_loop0 K K]; rfl)
theorem env_zono_image : EnvOK Tryz.prog G Γ_zono_image := ⟨T_ok, ((phi_cons fn_vec_Inner (phi_cons fn_zono_points (phi_cons fn_zono_middles phi_nil))) : PhiOK Tryz.prog G Γ_zono_image.Φ), fun _ _ h => (by cases h), mixed⟩
theorem fn_zono_image : FnOK Tryz.prog G 79 en_zono_image := FnOK.of env_zono_image Tryz.func79 (by kernel_rfl) (by kernel_rfl) (of_decide_eq_true (by kernel_rfl)) (fun x y h => ⟨100, (zono_image_eq 100 x.1 x.2.1 x.2.2.1).trans h⟩)

noncomputable def Γ_zono_wider_w : Env := { T := T, Φ := fun i => bif Nat.beq i 25 then some en_span_Point else bif Nat.beq i 57 then some en_span_Add else none, ann := fun i => bif Nat.beq i 3 then [(0, .c .win), (1, .c (.data tY)), (2, .c .sc), (8, .c (.own 100 49 tY)), (16, .c .sc), (17, .c .sc)] else [], ord := fun i => bif Nat.beq i 5 then [0, 1, 2, 3, 5, 6, 7, 8, 10, 4, 9, 11, 12, 13, 14, 15, 16, 17] else [] }
noncomputable def zono_wider_w_c : Code := (Tryz.f48.body).getD .skip
noncomputable def zono_wider_w_fin := finishW Γ_zono_wider_w 49 Tryz.f48.results.toList (.pair lY (.pair lY tE)) [some 49]
noncomputable def zono_wider_w_k0 (κ : Kt (.pair lY (.pair lY tE))) (a : List dY) (b c : Nat) (d : List dY) (e : Int) (f : List dY) (g h : Int) := κ { t := (upd (upd (upd (upd (upd (upd (fun _ => .undef) 0 (.one (.sub 0 b c))) 1 (.one (.sl tY d))) 2 (.one (.int .i64 e))) 8 (.one (.own 100))) 16 (.one (.int .i64 g))) 17 (.one (.int .i64 h))), m := (upd (upd (upd (fun _ => .free) 0 .held) 0 (.row true 49 tY a)) 100 (.row true 49 tY f)), nx := 1000000, n := 45 }
noncomputable def zono_wider_w_A0 (K : Nat) := loopAt Γ_zono_wider_w K [.r, .r, .l, .r, .b] zono_wider_w_c [] zono_wider_w_fin (fun _ _ => none) zono_wider_w_fin
theorem zono_wider_w_loop0 (K : Nat) : ∀ n, zono_wider_w_k0 (zono_wider_w_A0 K n) = zono_wider_w_l0 K n
  | 0 => by kernel_rfl
  | n + 1 => Eq.trans (b := zono_wider_w_s0 (zono_wider_w_k0 (zono_wider_w_A0 K n))) (by kernel_rfl) (by rw [zono_wider_w_loop0 K n]; rfl)
theorem zono_wider_w_eq (K : Nat) (a : List dY) (off : Int) (len : Int) (b : List dY) (bits : Int) : exW Γ_zono_wider_w K Tryz.f48 49 (.pair lY (.pair (.int .i64) (.pair (.int .i64) (.pair lY tE)))) (.pair lY (.pair lY tE)) [some 49] (a, off, len, b, bits, ()) = zono_wider_w K a off len b bits :=
  Eq.trans (b := zono_wider_w_b (zono_wider_w_k0 (zono_wider_w_A0 K K)) a off len b bits) (by kernel_rfl) (by rw [zono_wider_w_loop0 K K]; rfl)
theorem env_zono_wider_w : EnvOK Tryz.prog G Γ_zono_wider_w := ⟨T_ok, ((phi_cons fn_span_Point (phi_cons fn_span_Add phi_nil)) : PhiOK Tryz.prog G Γ_zono_wider_w.Φ), fun _ _ h => (by cases h), mixed⟩
theorem fn_zono_wider_w : FnOK Tryz.prog G 48 en_zono_wider_w := FnOK.ofW env_zono_wider_w Tryz.func48 (by kernel_rfl) (by kernel_rfl) (of_decide_eq_true (by kernel_rfl)) zono_wider_w_len (fun x y h => ⟨100, (zono_wider_w_eq 100 x.1 x.2.1 x.2.2.1 x.2.2.2.1 x.2.2.2.2.1).trans h⟩)

noncomputable def Γ_zono_Image : Env := { T := T, Φ := fun i => bif Nat.beq i 55 then some en_vec_Inner else bif Nat.beq i 58 then some en_span_Size else bif Nat.beq i 63 then some en_span_Even else bif Nat.beq i 79 then some en_zono_image else bif Nat.beq i 48 then some en_zono_wider_w else none, ann := fun i => bif Nat.beq i 6 then [(0, .c (.data lS)), (2, .c .sc), (4, .var 100 [.data tY, .data lY, .data tY]), (6, .var 101 [.data tY, .data lY, .data tY]), (11, .var 104 [.data tY, .own 102 29 lY, .own 103 49 tY]), (42, .c (.data lY)), (43, .c .sc), (44, .c .sc)] else bif Nat.beq i 18 then [(0, .c (.data lS)), (2, .c .sc), (6, .var 100 [.data tY, .data lY, .data tY]), (11, .var 103 [.data tY, .own 101 29 lY, .own 102 49 tY]), (17, .c (.own 104 65 tS)), (85, .c (.data tY)), (86, .c .sc), (87, .c .sc)] else bif Nat.beq i 23 then [(2, .c .sc), (6, .var 100 [.data tY, .data lY, .data tY]), (11, .var 103 [.data tY, .own 101 29 lY, .own 102 49 tY]), (17, .c (.data tS)), (98, .c (.data lS)), (99, .c .sc), (100, .c .sc)] else [], ord := fun i => bif Nat.beq i 28 then [0, 1, 2, 3, 4, 5, 6, 9, 7, 8, 10, 11, 12, 13, 14, 15] else bif Nat.beq i 31 then [0, 1, 2, 3, 4, 5, 6, 7] else [] }
noncomputable def zono_Image_c : Code := (Tryz.f38.body).getD .skip
noncomputable def zono_Image_fin := finish Γ_zono_Image Tryz.f38.results.toList (.pair tZ tE) []
noncomputable def zono_Image_k0 (κ : Kt (.pair tZ tE)) (a : List (List dS)) (b : Int) (c : List dY) (d : List (List dY)) (e f : List dY) (g : List (List dY)) (h i : List dY) (j : List (List dY)) (k : List dY) (l : List (List dY)) (o p : Int) := κ { t := (upd (upd (upd (upd (upd (upd (upd (upd (fun _ => .undef) 0 (.one (.sl lS a))) 2 (.one (.int .i64 b))) 4 (.one (.vptr 100 0))) 6 (.one (.vptr 101 0))) 11 (.one (.vptr 104 0))) 42 (.one (.sl lY l))) 43 (.one (.int .i64 o))) 44 (.one (.int .i64 p))), m := (upd (upd (upd (upd (upd (upd (fun _ => .free) 0 .held) 100 (.var true [.sl tY c, .sl lY d, .sl tY e])) 101 (.var true [.sl tY f, .sl lY g, .sl tY h])) 102 (.row true 29 lY j)) 103 (.row true 49 tY k)) 104 (.var true [.sl tY i, .own 102, .own 103])), nx := 1000000, n := 143 }
noncomputable def zono_Image_k1 (κ : Kt (.pair tZ tE)) (a : List (List dS)) (b : Int) (c : List dY) (d : List (List dY)) (e f : List dY) (g : List (List dY)) (h : List dY) (i : List dS) (j : List dY) (k l : Int) := κ { t := (upd (upd (upd (upd (upd (upd (upd (upd (fun _ => .undef) 0 (.one (.sl lS a))) 2 (.one (.int .i64 b))) 6 (.one (.vptr 100 0))) 11 (.one (.vptr 103 0))) 17 (.one (.own 104))) 85 (.one (.sl tY j))) 86 (.one (.int .i64 k))) 87 (.one (.int .i64 l))), m := (upd (upd (upd (upd (upd (upd (fun _ => .free) 0 .held) 100 (.var true [.sl tY c, .sl lY d, .sl tY e])) 101 (.row true 29 lY g)) 102 (.row true 49 tY h)) 103 (.var true [.sl tY f, .own 101, .own 102])) 104 (.row true 65 tS i)), nx := 1000000, n := 143 }
noncomputable def zono_Image_k2 (κ : Kt (.pair tZ tE)) (a : Int) (b : List dY) (c : List (List dY)) (d e : List dY) (f : List (List dY)) (g : List dY) (h : List dS) (i : List (List dS)) (j k : Int) := κ { t := (upd (upd (upd (upd (upd (upd (upd (fun _ => .undef) 2 (.one (.int .i64 a))) 6 (.one (.vptr 100 0))) 11 (.one (.vptr 103 0))) 17 (.one (.sl tS h))) 98 (.one (.sl lS i))) 99 (.one (.int .i64 j))) 100 (.one (.int .i64 k))), m := (upd (upd (upd (upd (upd (fun _ => .free) 0 .held) 100 (.var true [.sl tY b, .sl lY c, .sl tY d])) 101 (.row true 29 lY f)) 102 (.row true 49 tY g)) 103 (.var true [.sl tY e, .own 101, .own 102])), nx := 1000000, n := 143 }
noncomputable def zono_Image_A2 (K : Nat) (κ0 : Kt (.pair tZ tE)) (κ1 : Kt (.pair tZ tE)) := loopAt Γ_zono_Image K [.r, .r, .r, .r, .r, .r, .r, .l, .r, .b] zono_Image_c [] zono_Image_fin (fun _ _ => none) zono_Image_fin
theorem zono_Image_loop2 (K : Nat) (κ0 : Kt (.pair tZ tE)) (κ1 : Kt (.pair tZ tE)) : ∀ n, zono_Image_k2 (zono_Image_A2 K κ0 κ1 n) = zono_Image_l2 K (zono_Image_k0 κ0) (zono_Image_k1 κ1) n
  | 0 => by kernel_rfl
  | n + 1 => Eq.trans (b := zono_Image_s2 (zono_Image_k0 κ0) (zono_Image_k1 κ1) (zono_Image_k2 (zono_Image_A2 K κ0 κ1 n))) (by kernel_rfl) (by rw [zono_Image_loop2 K κ0 κ1 n]; rfl)
noncomputable def zono_Image_A1 (K : Nat) (κ0 : Kt (.pair tZ tE)) := loopAt Γ_zono_Image K [.r, .r, .r, .r, .r, .r, .l, .r, .b] zono_Image_c [] zono_Image_fin (fun _ _ => none) zono_Image_fin
theorem zono_Image_loop1 (K : Nat) (κ0 : Kt (.pair tZ tE)) : ∀ n, zono_Image_k1 (zono_Image_A1 K κ0 n) = zono_Image_l1 K (zono_Image_k0 κ0) n
  | 0 => by kernel_rfl
  | n + 1 => Eq.trans (b := zono_Image_s1 (zono_Image_k2 (zono_Image_A2 K κ0 (zono_Image_A1 K κ0 n) K)) (zono_Image_k0 κ0) (zono_Image_k1 (zono_Image_A1 K κ0 n))) (by kernel_rfl) (by rw [zono_Image_loop2 K κ0 (zono_Image_A1 K κ0 n) K, zono_Image_loop1 K κ0 n]; rfl)
noncomputable def zono_Image_A0 (K : Nat) := loopAt Γ_zono_Image K [.r, .r, .r, .r, .l, .r, .b] zono_Image_c [] zono_Image_fin (fun _ _ => none) zono_Image_fin
theorem zono_Image_loop0 (K : Nat) : ∀ n, zono_Image_k0 (zono_Image_A0 K n) = zono_Image_l0 K n
  | 0 => by kernel_rfl
  | n + 1 => Eq.trans (b := zono_Image_s0 (zono_Image_k1 (zono_Image_A1 K (zono_Image_A0 K n) K)) (zono_Image_k0 (zono_Image_A0 K n))) (by kernel_rfl) (by rw [zono_Image_loop1 K (zono_Image_A0 K n) K, zono_Image_loop0 K n]; rfl)
theorem zono_Image_eq (K : Nat) (a : List (List dS)) (z : dZ) (bits : Int) : exF Γ_zono_Image K Tryz.f38 (.pair (.sl lS) (.pair tZ tE)) (.pair tZ tE) [] (a, z, bits, ()) = zono_Image K a z bits :=
  Eq.trans (b := zono_Image_b (zono_Image_k0 (zono_Image_A0 K K)) a z bits) (by kernel_rfl) (by rw [zono_Image_loop0 K K]; rfl)
theorem env_zono_Image : EnvOK Tryz.prog G Γ_zono_Image := ⟨T_ok, ((phi_cons fn_vec_Inner (phi_cons fn_span_Size (phi_cons fn_span_Even (phi_cons fn_zono_image (phi_cons fn_zono_wider_w phi_nil))))) : PhiOK Tryz.prog G Γ_zono_Image.Φ), fun _ _ h => (by cases h), mixed⟩
theorem fn_zono_Image : FnOK Tryz.prog G 38 en_zono_Image := FnOK.of env_zono_Image Tryz.func38 (by kernel_rfl) (by kernel_rfl) (of_decide_eq_true (by kernel_rfl)) (fun x y h => ⟨100, (zono_Image_eq 100 x.1 x.2.1 x.2.2.1).trans h⟩)

noncomputable def Γ_zono_Times : Env := { T := T, Φ := fun i => bif Nat.beq i 38 then some en_zono_Image else none, loan := true, ann := fun i => bif Nat.beq i 4 then [(2, .c .sc), (3, .var 100 [.data tY, .data lY, .data tY]), (4, .var 101 [.sc, .data (.int .u32), .sc, .sc, .data (.int .u32), .sc]), (6, .var 102 [.data tY, .data lY, .data tY]), (8, .c .sc), (9, .c (.own 103 36 lS)), (17, .c .sc), (18, .c .sc)] else [], ord := fun i => bif Nat.beq i 7 then [0, 1, 2, 3, 4, 5, 6, 7] else [] }
noncomputable def zono_Times_c : Code := (Tryz.f24.body).getD .skip
noncomputable def zono_Times_fin := finish Γ_zono_Times Tryz.f24.results.toList (.pair tZ tE) []
noncomputable def zono_Times_k0 (κ : Kt (.pair tZ tE)) (a : Int) (b : List dY) (c : List (List dY)) (d : List dY) (e : Bool) (f : List Int) (g : Int) (h : Bool) (i : List Int) (j : Int) (k : List dY) (l : List (List dY)) (o : List dY) (p : Int) (q : List (List dS)) (r s : Int) := κ { t := (upd (upd (upd (upd (upd (upd (upd (upd (fun _ => .undef) 2 (.one (.int .i64 a))) 3 (.one (.vptr 100 0))) 4 (.one (.vptr 101 0))) 6 (.one (.vptr 102 0))) 8 (.one (.int .i64 p))) 9 (.one (.own 103))) 17 (.one (.int .i64 r))) 18 (.one (.int .i64 s))), m := (upd (upd (upd (upd (upd (fun _ => .free) 0 .held) 100 (.var true [.sl tY b, .sl lY c, .sl tY d])) 101 (.var true [.bool e, .sl (.int .u32) f, .int .i64 g, .bool h, .sl (.int .u32) i, .int .i64 j])) 102 (.var true [.sl tY k, .sl lY l, .sl tY o])) 103 (.row true 36 lS q)), nx := 1000000, n := 40 }
noncomputable def zono_Times_A0 (K : Nat) := loopAt Γ_zono_Times K [.r, .r, .r, .l, .r, .b] zono_Times_c [] zono_Times_fin (fun _ _ => none) zono_Times_fin
theorem zono_Times_loop0 (K : Nat) : ∀ n, zono_Times_k0 (zono_Times_A0 K n) = zono_Times_l0 K n
  | 0 => by kernel_rfl
  | n + 1 => Eq.trans (b := zono_Times_s0 (zono_Times_k0 (zono_Times_A0 K n))) (by kernel_rfl) (by rw [zono_Times_loop0 K n]; rfl)
theorem zono_Times_eq (K : Nat) (z : dZ) (by_ : dS) (bits : Int) : exF Γ_zono_Times K Tryz.f24 (.pair tZ (.pair tS tE)) (.pair tZ tE) [] (z, by_, bits, ()) = zono_Times K z by_ bits :=
  Eq.trans (b := zono_Times_b (zono_Times_k0 (zono_Times_A0 K K)) z by_ bits) (by kernel_rfl) (by rw [zono_Times_loop0 K K]; rfl)
theorem env_zono_Times : EnvOK Tryz.prog G Γ_zono_Times := ⟨T_ok, ((phi_cons fn_zono_Image phi_nil) : PhiOK Tryz.prog G Γ_zono_Times.Φ), fun _ _ h => (by cases h), mixed⟩
theorem fn_zono_Times : FnOK Tryz.prog G 24 en_zono_Times := FnOK.of env_zono_Times Tryz.func24 (by kernel_rfl) (by kernel_rfl) (of_decide_eq_true (by kernel_rfl)) (fun x y h => ⟨100, (zono_Times_eq 100 x.1 x.2.1 x.2.2.1).trans h⟩)

noncomputable def Γ_zono_Wider : Env := { T := T, Φ := fun i => bif Nat.beq i 48 then some en_zono_wider else bif Nat.beq i 67 then some en_dyad_Abs else none, ann := fun i => bif Nat.beq i 3 then [(2, .c .sc), (3, .var 100 [.data tY, .data lY, .data tY]), (4, .var 101 [.sc, .data (.int .u32), .sc]), (6, .var 102 [.data tY, .data lY, .data tY]), (8, .c (.own 103 49 tY)), (17, .c .sc), (18, .c .sc)] else [] }
noncomputable def zono_Wider_c : Code := (Tryz.f26.body).getD .skip
noncomputable def zono_Wider_fin := finish Γ_zono_Wider Tryz.f26.results.toList (.pair tZ tE) []
noncomputable def zono_Wider_k0 (κ : Kt (.pair tZ tE)) (a : Int) (b : List dY) (c : List (List dY)) (d : List dY) (e : Bool) (f : List Int) (g : Int) (h : List dY) (i : List (List dY)) (j k : List dY) (l o : Int) := κ { t := (upd (upd (upd (upd (upd (upd (upd (fun _ => .undef) 2 (.one (.int .i64 a))) 3 (.one (.vptr 100 0))) 4 (.one (.vptr 101 0))) 6 (.one (.vptr 102 0))) 8 (.one (.own 103))) 17 (.one (.int .i64 l))) 18 (.one (.int .i64 o))), m := (upd (upd (upd (upd (upd (fun _ => .free) 0 .held) 100 (.var true [.sl tY b, .sl lY c, .sl tY d])) 101 (.var true [.bool e, .sl (.int .u32) f, .int .i64 g])) 102 (.var true [.sl tY h, .sl lY i, .sl tY j])) 103 (.row true 49 tY k)), nx := 1000000, n := 42 }
noncomputable def zono_Wider_A0 (K : Nat) := loopAt Γ_zono_Wider K [.r, .r, .l, .r, .b] zono_Wider_c [] zono_Wider_fin (fun _ _ => none) zono_Wider_fin
theorem zono_Wider_loop0 (K : Nat) : ∀ n, zono_Wider_k0 (zono_Wider_A0 K n) = zono_Wider_l0 K n
  | 0 => by kernel_rfl
  | n + 1 => Eq.trans (b := zono_Wider_s0 (zono_Wider_k0 (zono_Wider_A0 K n))) (by kernel_rfl) (by rw [zono_Wider_loop0 K n]; rfl)
theorem zono_Wider_eq (K : Nat) (z : dZ) (by_ : dY) (bits : Int) : exF Γ_zono_Wider K Tryz.f26 (.pair tZ (.pair tY tE)) (.pair tZ tE) [] (z, by_, bits, ()) = zono_Wider K z by_ bits :=
  Eq.trans (b := zono_Wider_b (zono_Wider_k0 (zono_Wider_A0 K K)) z by_ bits) (by kernel_rfl) (by rw [zono_Wider_loop0 K K]; rfl)
theorem env_zono_Wider : EnvOK Tryz.prog G Γ_zono_Wider := ⟨T_ok, ((phi_cons fn_zono_wider (phi_cons fn_dyad_Abs phi_nil)) : PhiOK Tryz.prog G Γ_zono_Wider.Φ), fun _ _ h => (by cases h), mixed⟩
theorem fn_zono_Wider : FnOK Tryz.prog G 26 en_zono_Wider := FnOK.of env_zono_Wider Tryz.func26 (by kernel_rfl) (by kernel_rfl) (of_decide_eq_true (by kernel_rfl)) (fun x y h => ⟨100, (zono_Wider_eq 100 x.1 x.2.1 x.2.2.1).trans h⟩)

noncomputable def Γ_limbs_Check : Env := { T := T, Φ := fun i => none, ann := fun i => [] }
theorem limbs_Check_eq (K : Nat) (a : List Int) : exF Γ_limbs_Check K Tryz.f112 (.pair lU .unit) tE [] (a, ()) = limbs_Check a := by kernel_rfl
theorem env_limbs_Check : EnvOK Tryz.prog G Γ_limbs_Check := ⟨T_ok, (phi_nil : PhiOK Tryz.prog G Γ_limbs_Check.Φ), fun _ _ h => (by cases h), mixed⟩
theorem fn_limbs_Check : FnOK Tryz.prog G 112 en_limbs_Check := FnOK.of env_limbs_Check Tryz.func112 (by kernel_rfl) (by kernel_rfl) (of_decide_eq_true (by kernel_rfl)) (fun x y h => ⟨0, (limbs_Check_eq 0 x.1).trans h⟩)

noncomputable def Γ_whole_Check : Env := { T := T, Φ := fun i => bif Nat.beq i 112 then some en_limbs_Check else none, ann := fun i => [] }
theorem whole_Check_eq (K : Nat) (a : dI) : exF Γ_whole_Check K Tryz.f104 (.pair tI .unit) tE [] (a, ()) = whole_Check a := by kernel_rfl
theorem env_whole_Check : EnvOK Tryz.prog G Γ_whole_Check := ⟨T_ok, ((phi_cons fn_limbs_Check phi_nil) : PhiOK Tryz.prog G Γ_whole_Check.Φ), fun _ _ h => (by cases h), mixed⟩
theorem fn_whole_Check : FnOK Tryz.prog G 104 en_whole_Check := FnOK.of env_whole_Check Tryz.func104 (by kernel_rfl) (by kernel_rfl) (of_decide_eq_true (by kernel_rfl)) (fun x y h => ⟨0, (whole_Check_eq 0 x.1).trans h⟩)

noncomputable def Γ_dyad_Check : Env := { T := T, Φ := fun i => bif Nat.beq i 104 then some en_whole_Check else none, ann := fun i => [] }
theorem dyad_Check_eq (K : Nat) (a : dY) : exF Γ_dyad_Check K Tryz.f68 (.pair tY .unit) tE [] (a, ()) = dyad_Check a := by kernel_rfl
theorem env_dyad_Check : EnvOK Tryz.prog G Γ_dyad_Check := ⟨T_ok, ((phi_cons fn_whole_Check phi_nil) : PhiOK Tryz.prog G Γ_dyad_Check.Φ), fun _ _ h => (by cases h), mixed⟩
theorem fn_dyad_Check : FnOK Tryz.prog G 68 en_dyad_Check := FnOK.of env_dyad_Check Tryz.func68 (by kernel_rfl) (by kernel_rfl) (of_decide_eq_true (by kernel_rfl)) (fun x y h => ⟨0, (dyad_Check_eq 0 x.1).trans h⟩)

noncomputable def Γ_zono_Check : Env := { T := T, Φ := fun i => bif Nat.beq i 20 then some en_dyad_Sign else bif Nat.beq i 68 then some en_dyad_Check else none, ann := fun i => bif Nat.beq i 6 then [(1, .c .sc), (2, .var 100 [.data tY, .data lY, .data tY]), (43, .c (.own 101 29 lY)), (44, .c .sc), (45, .c .sc)] else bif Nat.beq i 11 then [(1, .c .sc), (2, .var 100 [.data tY, .data lY, .data tY]), (43, .c (.own 101 29 lY)), (44, .c .sc), (45, .c .sc), (53, .c (.data tY)), (54, .c .sc), (55, .c .sc)] else bif Nat.beq i 19 then [(67, .c (.data tY)), (68, .c .sc), (69, .c .sc)] else [] }
noncomputable def zono_Check_c : Code := (Tryz.f27.body).getD .skip
noncomputable def zono_Check_fin := finish Γ_zono_Check Tryz.f27.results.toList tE []
noncomputable def zono_Check_k0 (κ : Kt tE) (a : Int) (b : List dY) (c : List (List dY)) (d : List dY) (e : List (List dY)) (f g : Int) := κ { t := (upd (upd (upd (upd (upd (fun _ => .undef) 1 (.one (.int .i64 a))) 2 (.one (.vptr 100 0))) 43 (.one (.own 101))) 44 (.one (.int .i64 f))) 45 (.one (.int .i64 g))), m := (upd (upd (upd (fun _ => .free) 0 .held) 100 (.var true [.sl tY b, .sl lY c, .sl tY d])) 101 (.row true 29 lY e)), nx := 1000000, n := 77 }
noncomputable def zono_Check_k1 (κ : Kt tE) (a : Int) (b : List dY) (c : List (List dY)) (d : List dY) (e : List (List dY)) (f g : Int) (h : List dY) (i j : Int) := κ { t := (upd (upd (upd (upd (upd (upd (upd (upd (fun _ => .undef) 1 (.one (.int .i64 a))) 2 (.one (.vptr 100 0))) 43 (.one (.own 101))) 44 (.one (.int .i64 f))) 45 (.one (.int .i64 g))) 53 (.one (.sl tY h))) 54 (.one (.int .i64 i))) 55 (.one (.int .i64 j))), m := (upd (upd (upd (fun _ => .free) 0 .held) 100 (.var true [.sl tY b, .sl lY c, .sl tY d])) 101 (.row true 29 lY e)), nx := 1000000, n := 77 }
noncomputable def zono_Check_k2 (κ : Kt tE) (a : List dY) (b c : Int) := κ { t := (upd (upd (upd (fun _ => .undef) 67 (.one (.sl tY a))) 68 (.one (.int .i64 b))) 69 (.one (.int .i64 c))), m := (upd (fun _ => .free) 0 .held), nx := 1000000, n := 77 }
noncomputable def zono_Check_A1 (K : Nat) (κ0 : Kt tE) := loopAt Γ_zono_Check K [.r, .r, .r, .l, .r, .b, .c, .r, .r, .l, .b, .r, .r, .r, .b] zono_Check_c [fun st => mask [(1, .c .sc), (2, .var 100 [.data tY, .data lY, .data tY]), (43, .c (.own 101 29 lY)), (44, .c .sc), (45, .c .sc)] 1000000 st (κ0)] zono_Check_fin (fun _ _ => none) zono_Check_fin
theorem zono_Check_loop1 (K : Nat) (κ0 : Kt tE) : ∀ n, zono_Check_k1 (zono_Check_A1 K κ0 n) = zono_Check_l1 K (zono_Check_k0 κ0) n
  | 0 => by kernel_rfl
  | n + 1 => Eq.trans (b := zono_Check_s1 (zono_Check_k0 κ0) (zono_Check_k1 (zono_Check_A1 K κ0 n))) (by kernel_rfl) (by rw [zono_Check_loop1 K κ0 n]; rfl)
noncomputable def zono_Check_A2 (K : Nat) (κ0 : Kt tE) := loopAt Γ_zono_Check K [.r, .r, .r, .r, .l, .r, .b] zono_Check_c [] zono_Check_fin (fun _ _ => none) zono_Check_fin
theorem zono_Check_loop2 (K : Nat) (κ0 : Kt tE) : ∀ n, zono_Check_k2 (zono_Check_A2 K κ0 n) = zono_Check_l2 K (zono_Check_k0 κ0) n
  | 0 => by kernel_rfl
  | n + 1 => Eq.trans (b := zono_Check_s2 (zono_Check_k0 κ0) (zono_Check_k2 (zono_Check_A2 K κ0 n))) (by kernel_rfl) (by rw [zono_Check_loop2 K κ0 n]; rfl)
noncomputable def zono_Check_A0 (K : Nat) := loopAt Γ_zono_Check K [.r, .r, .r, .l, .r, .b] zono_Check_c [] zono_Check_fin (fun _ _ => none) zono_Check_fin
theorem zono_Check_loop0 (K : Nat) : ∀ n, zono_Check_k0 (zono_Check_A0 K n) = zono_Check_l0 K n
  | 0 => by kernel_rfl
  | n + 1 => Eq.trans (b := zono_Check_s0 (zono_Check_k1 (zono_Check_A1 K (zono_Check_A0 K n) K)) (zono_Check_k2 (zono_Check_A2 K (zono_Check_A0 K n) K)) (zono_Check_k0 (zono_Check_A0 K n))) (by kernel_rfl) (by rw [zono_Check_loop1 K (zono_Check_A0 K n) K, zono_Check_loop2 K (zono_Check_A0 K n) K, zono_Check_loop0 K n]; rfl)
theorem zono_Check_eq (K : Nat) (z : dZ) (n : Int) : exF Γ_zono_Check K Tryz.f27 (.pair tZ tE) tE [] (z, n, ()) = zono_Check K z n :=
  Eq.trans (b := zono_Check_b (zono_Check_k0 (zono_Check_A0 K K)) z n) (by kernel_rfl) (by rw [zono_Check_loop0 K K]; rfl)
theorem env_zono_Check : EnvOK Tryz.prog G Γ_zono_Check := ⟨T_ok, ((phi_cons fn_dyad_Sign (phi_cons fn_dyad_Check phi_nil)) : PhiOK Tryz.prog G Γ_zono_Check.Φ), fun _ _ h => (by cases h), mixed⟩
theorem fn_zono_Check : FnOK Tryz.prog G 27 en_zono_Check := FnOK.of env_zono_Check Tryz.func27 (by kernel_rfl) (by kernel_rfl) (of_decide_eq_true (by kernel_rfl)) (fun x y h => ⟨100, (zono_Check_eq 100 x.1 x.2.1).trans h⟩)

noncomputable def Γ_mat_Near : Env := { T := T, Φ := fun i => bif Nat.beq i 12 then some en_vec_Near else none, ann := fun i => bif Nat.beq i 3 then [(1, .c .sc), (6, .c (.own 100 36 lS)), (14, .c (.data lR)), (15, .c .sc), (16, .c .sc)] else [] }
noncomputable def mat_Near_c : Code := (Tryz.f37.body).getD .skip
noncomputable def mat_Near_fin := finish Γ_mat_Near Tryz.f37.results.toList (.pair (.sl lS) tE) []
noncomputable def mat_Near_k0 (κ : Kt (.pair (.sl lS) tE)) (a : Int) (b : List (List dS)) (c : List (List dR)) (d e : Int) := κ { t := (upd (upd (upd (upd (upd (fun _ => .undef) 1 (.one (.int .i64 a))) 6 (.one (.own 100))) 14 (.one (.sl lR c))) 15 (.one (.int .i64 d))) 16 (.one (.int .i64 e))), m := (upd (upd (fun _ => .free) 0 .held) 100 (.row true 36 lS b)), nx := 1000000, n := 36 }
noncomputable def mat_Near_A0 (K : Nat) := loopAt Γ_mat_Near K [.r, .r, .l, .r, .b] mat_Near_c [] mat_Near_fin (fun _ _ => none) mat_Near_fin
theorem mat_Near_loop0 (K : Nat) : ∀ n, mat_Near_k0 (mat_Near_A0 K n) = mat_Near_l0 K n
  | 0 => by kernel_rfl
  | n + 1 => Eq.trans (b := mat_Near_s0 (mat_Near_k0 (mat_Near_A0 K n))) (by kernel_rfl) (by rw [mat_Near_loop0 K n]; rfl)
theorem mat_Near_eq (K : Nat) (a : List (List dR)) (bits : Int) : exF Γ_mat_Near K Tryz.f37 (.pair (.sl lR) tE) (.pair (.sl lS) tE) [] (a, bits, ()) = mat_Near K a bits :=
  Eq.trans (b := mat_Near_b (mat_Near_k0 (mat_Near_A0 K K)) a bits) (by kernel_rfl) (by rw [mat_Near_loop0 K K]; rfl)
theorem env_mat_Near : EnvOK Tryz.prog G Γ_mat_Near := ⟨T_ok, ((phi_cons fn_vec_Near phi_nil) : PhiOK Tryz.prog G Γ_mat_Near.Φ), fun _ _ h => (by cases h), mixed⟩
theorem fn_mat_Near : FnOK Tryz.prog G 37 en_mat_Near := FnOK.of env_mat_Near Tryz.func37 (by kernel_rfl) (by kernel_rfl) (of_decide_eq_true (by kernel_rfl)) (fun x y h => ⟨100, (mat_Near_eq 100 x.1 x.2.1).trans h⟩)

noncomputable def Γ_vec_Norm : Env := { T := T, Φ := fun i => bif Nat.beq i 58 then some en_span_Size else bif Nat.beq i 91 then some en_dyad_Max else none, ann := fun i => bif Nat.beq i 3 then [(2, .var 100 [.sc, .data (.int .u32), .sc]), (3, .var 101 [.sc, .data (.int .u32), .sc]), (6, .c (.data tS)), (7, .c .sc), (8, .c .sc)] else [], ord := fun i => bif Nat.beq i 5 then [0, 1, 2, 3, 4] else [] }
noncomputable def vec_Norm_c : Code := (Tryz.f80.body).getD .skip
noncomputable def vec_Norm_fin := finish Γ_vec_Norm Tryz.f80.results.toList (.pair tY .unit) []
noncomputable def vec_Norm_k0 (κ : Kt (.pair tY .unit)) (a : Bool) (b : List Int) (c : Int) (d : Bool) (e : List Int) (f : Int) (g : List dS) (h i : Int) := κ { t := (upd (upd (upd (upd (upd (fun _ => .undef) 2 (.one (.vptr 100 0))) 3 (.one (.vptr 101 0))) 6 (.one (.sl tS g))) 7 (.one (.int .i64 h))) 8 (.one (.int .i64 i))), m := (upd (upd (upd (fun _ => .free) 0 .held) 100 (.var true [.bool a, .sl (.int .u32) b, .int .i64 c])) 101 (.var true [.bool d, .sl (.int .u32) e, .int .i64 f])), nx := 1000000, n := 18 }
noncomputable def vec_Norm_A0 (K : Nat) := loopAt Γ_vec_Norm K [.r, .r, .l, .r, .b] vec_Norm_c [] vec_Norm_fin (fun _ _ => none) vec_Norm_fin
theorem vec_Norm_loop0 (K : Nat) : ∀ n, vec_Norm_k0 (vec_Norm_A0 K n) = vec_Norm_l0 K n
  | 0 => by kernel_rfl
  | n + 1 => Eq.trans (b := vec_Norm_s0 (vec_Norm_k0 (vec_Norm_A0 K n))) (by kernel_rfl) (by rw [vec_Norm_loop0 K n]; rfl)
theorem vec_Norm_eq (K : Nat) (a : List dS) : exF Γ_vec_Norm K Tryz.f80 (.pair lS .unit) (.pair tY .unit) [] (a, ()) = vec_Norm K a :=
  Eq.trans (b := vec_Norm_b (vec_Norm_k0 (vec_Norm_A0 K K)) a) (by kernel_rfl) (by rw [vec_Norm_loop0 K K]; rfl)
theorem env_vec_Norm : EnvOK Tryz.prog G Γ_vec_Norm := ⟨T_ok, ((phi_cons fn_span_Size (phi_cons fn_dyad_Max phi_nil)) : PhiOK Tryz.prog G Γ_vec_Norm.Φ), fun _ _ h => (by cases h), mixed⟩
theorem fn_vec_Norm : FnOK Tryz.prog G 80 en_vec_Norm := FnOK.of env_vec_Norm Tryz.func80 (by kernel_rfl) (by kernel_rfl) (of_decide_eq_true (by kernel_rfl)) (fun x y h => ⟨100, (vec_Norm_eq 100 x.1).trans h⟩)

noncomputable def Γ_zono_Reach : Env := { T := T, Φ := fun i => bif Nat.beq i 17 then some en_zono_Box else bif Nat.beq i 80 then some en_vec_Norm else none, ann := fun i => [] }
theorem zono_Reach_eq (K : Nat) (z : dZ) (bits : Int) : exF Γ_zono_Reach K Tryz.f40 (.pair tZ tE) (.pair tY tE) [] (z, bits, ()) = zono_Reach z bits := by kernel_rfl
theorem env_zono_Reach : EnvOK Tryz.prog G Γ_zono_Reach := ⟨T_ok, ((phi_cons fn_zono_Box (phi_cons fn_vec_Norm phi_nil)) : PhiOK Tryz.prog G Γ_zono_Reach.Φ), fun _ _ h => (by cases h), mixed⟩
theorem fn_zono_Reach : FnOK Tryz.prog G 40 en_zono_Reach := FnOK.of env_zono_Reach Tryz.func40 (by kernel_rfl) (by kernel_rfl) (of_decide_eq_true (by kernel_rfl)) (fun x y h => ⟨0, (zono_Reach_eq 0 x.1 x.2.1).trans h⟩)

noncomputable def Γ_vec_Zero : Env := { T := T, Φ := fun i => bif Nat.beq i 34 then some en_ratio_Zero else none, ann := fun i => bif Nat.beq i 3 then [(3, .c (.own 100 46 tR)), (10, .c .sc), (11, .c .sc)] else [] }
noncomputable def vec_Zero_c : Code := (Tryz.f83.body).getD .skip
noncomputable def vec_Zero_fin := finish Γ_vec_Zero Tryz.f83.results.toList (.pair lR .unit) [some 46]
noncomputable def vec_Zero_k0 (κ : Kt (.pair lR .unit)) (a : List dR) (b c : Int) := κ { t := (upd (upd (upd (fun _ => .undef) 3 (.one (.own 100))) 10 (.one (.int .i64 b))) 11 (.one (.int .i64 c))), m := (upd (upd (fun _ => .free) 0 .held) 100 (.row true 46 tR a)), nx := 1000000, n := 20 }
noncomputable def vec_Zero_A0 (K : Nat) := loopAt Γ_vec_Zero K [.r, .r, .l, .r, .b] vec_Zero_c [] vec_Zero_fin (fun _ _ => none) vec_Zero_fin
theorem vec_Zero_loop0 (K : Nat) : ∀ n, vec_Zero_k0 (vec_Zero_A0 K n) = vec_Zero_l0 K n
  | 0 => by kernel_rfl
  | n + 1 => Eq.trans (b := vec_Zero_s0 (vec_Zero_k0 (vec_Zero_A0 K n))) (by kernel_rfl) (by rw [vec_Zero_loop0 K n]; rfl)
theorem vec_Zero_eq (K : Nat) (n : Int) : exF Γ_vec_Zero K Tryz.f83 tE (.pair lR .unit) [some 46] (n, ()) = vec_Zero K n :=
  Eq.trans (b := vec_Zero_b (vec_Zero_k0 (vec_Zero_A0 K K)) n) (by kernel_rfl) (by rw [vec_Zero_loop0 K K]; rfl)
theorem env_vec_Zero : EnvOK Tryz.prog G Γ_vec_Zero := ⟨T_ok, ((phi_cons fn_ratio_Zero phi_nil) : PhiOK Tryz.prog G Γ_vec_Zero.Φ), fun _ _ h => (by cases h), mixed⟩
theorem fn_vec_Zero : FnOK Tryz.prog G 83 en_vec_Zero := FnOK.of env_vec_Zero Tryz.func83 (by kernel_rfl) (by kernel_rfl) (of_decide_eq_true (by kernel_rfl)) (fun x y h => ⟨100, (vec_Zero_eq 100 x.1).trans h⟩)

noncomputable def Γ_vec_Unit : Env := { T := T, Φ := fun i => bif Nat.beq i 14 then some en_ratio_Of else bif Nat.beq i 83 then some en_vec_Zero else none, ann := fun i => [] }
theorem vec_Unit_eq (K : Nat) (n : Int) (at_ : Int) : exF Γ_vec_Unit K Tryz.f43 (.pair (.int .i64) tE) (.pair lR .unit) [] (n, at_, ()) = vec_Unit n at_ := by kernel_rfl
theorem env_vec_Unit : EnvOK Tryz.prog G Γ_vec_Unit := ⟨T_ok, ((phi_cons fn_ratio_Of (phi_cons fn_vec_Zero phi_nil)) : PhiOK Tryz.prog G Γ_vec_Unit.Φ), fun _ _ h => (by cases h), mixed⟩
theorem fn_vec_Unit : FnOK Tryz.prog G 43 en_vec_Unit := FnOK.of env_vec_Unit Tryz.func43 (by kernel_rfl) (by kernel_rfl) (of_decide_eq_true (by kernel_rfl)) (fun x y h => ⟨0, (vec_Unit_eq 0 x.1 x.2.1).trans h⟩)

noncomputable def Γ_zono_Point : Env := { T := T, Φ := fun i => none, ann := fun i => [], ord := fun i => bif Nat.beq i 2 then [0, 2, 1, 3, 4, 5] else [] }
theorem zono_Point_eq (K : Nat) (n : Int) : exF Γ_zono_Point K Tryz.f45 tE (.pair tZ .unit) [] (n, ()) = zono_Point n := by kernel_rfl
theorem env_zono_Point : EnvOK Tryz.prog G Γ_zono_Point := ⟨T_ok, (phi_nil : PhiOK Tryz.prog G Γ_zono_Point.Φ), fun _ _ h => (by cases h), mixed⟩
theorem fn_zono_Point : FnOK Tryz.prog G 45 en_zono_Point := FnOK.of env_zono_Point Tryz.func45 (by kernel_rfl) (by kernel_rfl) (of_decide_eq_true (by kernel_rfl)) (fun x y h => ⟨0, (zono_Point_eq 0 x.1).trans h⟩)

noncomputable def Γ_w16_spreads : Env := { T := T, Φ := fun i => bif Nat.beq i 11 then some en_zono_Of else bif Nat.beq i 12 then some en_vec_Near else bif Nat.beq i 14 then some en_ratio_Of else bif Nat.beq i 15 then some en_zono_Support else bif Nat.beq i 17 then some en_zono_Box else bif Nat.beq i 19 then some en_dyad_Of else bif Nat.beq i 23 then some en_zono_Add else bif Nat.beq i 24 then some en_zono_Times else bif Nat.beq i 25 then some en_span_Point else bif Nat.beq i 26 then some en_zono_Wider else bif Nat.beq i 27 then some en_zono_Check else bif Nat.beq i 34 then some en_ratio_Zero else bif Nat.beq i 37 then some en_mat_Near else bif Nat.beq i 38 then some en_zono_Image else bif Nat.beq i 40 then some en_zono_Reach else bif Nat.beq i 43 then some en_vec_Unit else bif Nat.beq i 44 then some en_dyad_Compare else bif Nat.beq i 45 then some en_zono_Point else none, ann := fun i => [], ord := fun i => bif Nat.beq i 9 then [0, 1, 2, 3, 4, 5, 6, 7, 8] else bif Nat.beq i 11 then [0, 1, 2, 3, 4, 5, 6, 7, 8, 9] else bif Nat.beq i 13 then [0, 1, 2, 3, 4, 5, 6, 7, 8, 9, 10, 11, 12, 13, 14, 15, 16, 17, 18, 19, 20, 21, 22, 23, 24, 25, 26, 27, 28, 29, 30, 31, 32, 33, 34, 35, 36, 37, 38, 39, 40, 41, 42, 43, 44, 45, 46, 47, 48, 49, 50, 51, 52, 53, 54, 55, 56, 57, 58, 59, 60, 61, 62, 63, 64, 65, 66, 67, 68, 69, 70, 71, 72, 73, 74, 75, 76, 77, 78, 79, 80, 81, 82, 83] else [] }
theorem w16_spreads_eq (K : Nat)  : exF Γ_w16_spreads K Tryz.f8 .unit (.pair .bool .unit) [] (()) = w16_spreads := by kernel_rfl
theorem env_w16_spreads : EnvOK Tryz.prog G Γ_w16_spreads := ⟨T_ok, ((phi_cons fn_zono_Of (phi_cons fn_vec_Near (phi_cons fn_ratio_Of (phi_cons fn_zono_Support (phi_cons fn_zono_Box (phi_cons fn_dyad_Of (phi_cons fn_zono_Add (phi_cons fn_zono_Times (phi_cons fn_span_Point (phi_cons fn_zono_Wider (phi_cons fn_zono_Check (phi_cons fn_ratio_Zero (phi_cons fn_mat_Near (phi_cons fn_zono_Image (phi_cons fn_zono_Reach (phi_cons fn_vec_Unit (phi_cons fn_dyad_Compare (phi_cons fn_zono_Point phi_nil)))))))))))))))))) : PhiOK Tryz.prog G Γ_w16_spreads.Φ), fun _ _ h => (by cases h), mixed⟩
theorem fn_w16_spreads : FnOK Tryz.prog G 8 en_w16_spreads := FnOK.of env_w16_spreads Tryz.func8 (by kernel_rfl) (by kernel_rfl) (of_decide_eq_true (by kernel_rfl)) (fun x y h => ⟨0, (w16_spreads_eq 0 ).trans h⟩)

noncomputable def Γ_ratio_Check : Env := { T := T, Φ := fun i => bif Nat.beq i 76 then some en_limbs_Of else bif Nat.beq i 87 then some en_digits_Gcd else bif Nat.beq i 96 then some en_limbs_Compare else bif Nat.beq i 104 then some en_whole_Check else bif Nat.beq i 112 then some en_limbs_Check else none, ann := fun i => [] }
theorem ratio_Check_eq (K : Nat) (a : dR) : exF Γ_ratio_Check K Tryz.f85 (.pair tR .unit) tE [] (a, ()) = ratio_Check a := by kernel_rfl
theorem env_ratio_Check : EnvOK Tryz.prog G Γ_ratio_Check := ⟨T_ok, ((phi_cons fn_limbs_Of (phi_cons fn_digits_Gcd (phi_cons fn_limbs_Compare (phi_cons fn_whole_Check (phi_cons fn_limbs_Check phi_nil))))) : PhiOK Tryz.prog G Γ_ratio_Check.Φ), fun _ _ h => (by cases h), mixed⟩
theorem fn_ratio_Check : FnOK Tryz.prog G 85 en_ratio_Check := FnOK.of env_ratio_Check Tryz.func85 (by kernel_rfl) (by kernel_rfl) (of_decide_eq_true (by kernel_rfl)) (fun x y h => ⟨0, (ratio_Check_eq 0 x.1).trans h⟩)

noncomputable def Γ_vec_Check : Env := { T := T, Φ := fun i => bif Nat.beq i 85 then some en_ratio_Check else none, ann := fun i => bif Nat.beq i 4 then [(20, .c (.data tR)), (21, .c .sc), (22, .c .sc)] else [] }
noncomputable def vec_Check_c : Code := (Tryz.f46.body).getD .skip
noncomputable def vec_Check_fin := finish Γ_vec_Check Tryz.f46.results.toList tE []
noncomputable def vec_Check_k0 (κ : Kt tE) (a : List dR) (b c : Int) := κ { t := (upd (upd (upd (fun _ => .undef) 20 (.one (.sl tR a))) 21 (.one (.int .i64 b))) 22 (.one (.int .i64 c))), m := (upd (fun _ => .free) 0 .held), nx := 1000000, n := 32 }
noncomputable def vec_Check_A0 (K : Nat) := loopAt Γ_vec_Check K [.r, .r, .l, .r, .b] vec_Check_c [] vec_Check_fin (fun _ _ => none) vec_Check_fin
theorem vec_Check_loop0 (K : Nat) : ∀ n, vec_Check_k0 (vec_Check_A0 K n) = vec_Check_l0 K n
  | 0 => by kernel_rfl
  | n + 1 => Eq.trans (b := vec_Check_s0 (vec_Check_k0 (vec_Check_A0 K n))) (by kernel_rfl) (by rw [vec_Check_loop0 K n]; rfl)
theorem vec_Check_eq (K : Nat) (a : List dR) (n : Int) : exF Γ_vec_Check K Tryz.f46 (.pair lR tE) tE [] (a, n, ()) = vec_Check K a n :=
  Eq.trans (b := vec_Check_b (vec_Check_k0 (vec_Check_A0 K K)) a n) (by kernel_rfl) (by rw [vec_Check_loop0 K K]; rfl)
theorem env_vec_Check : EnvOK Tryz.prog G Γ_vec_Check := ⟨T_ok, ((phi_cons fn_ratio_Check phi_nil) : PhiOK Tryz.prog G Γ_vec_Check.Φ), fun _ _ h => (by cases h), mixed⟩
theorem fn_vec_Check : FnOK Tryz.prog G 46 en_vec_Check := FnOK.of env_vec_Check Tryz.func46 (by kernel_rfl) (by kernel_rfl) (of_decide_eq_true (by kernel_rfl)) (fun x y h => ⟨100, (vec_Check_eq 100 x.1 x.2.1).trans h⟩)

noncomputable def Γ_w16_numbers : Env := { T := T, Φ := fun i => bif Nat.beq i 46 then some en_vec_Check else none, ann := fun i => bif Nat.beq i 4 then [(11, .c (.data tR)), (12, .c .sc), (13, .c .sc)] else [] }
noncomputable def w16_numbers_c : Code := (Tryz.f10.body).getD .skip
noncomputable def w16_numbers_fin := finish Γ_w16_numbers Tryz.f10.results.toList (.pair .bool .unit) []
noncomputable def w16_numbers_k0 (κ : Kt (.pair .bool .unit)) (a : List dR) (b c : Int) := κ { t := (upd (upd (upd (fun _ => .undef) 11 (.one (.sl tR a))) 12 (.one (.int .i64 b))) 13 (.one (.int .i64 c))), m := (upd (fun _ => .free) 0 .held), nx := 1000000, n := 29 }
noncomputable def w16_numbers_A0 (K : Nat) := loopAt Γ_w16_numbers K [.r, .r, .l, .r, .b] w16_numbers_c [] w16_numbers_fin (fun _ _ => none) w16_numbers_fin
theorem w16_numbers_loop0 (K : Nat) : ∀ n, w16_numbers_k0 (w16_numbers_A0 K n) = w16_numbers_l0 K n
  | 0 => by kernel_rfl
  | n + 1 => Eq.trans (b := w16_numbers_s0 (w16_numbers_k0 (w16_numbers_A0 K n))) (by kernel_rfl) (by rw [w16_numbers_loop0 K n]; rfl)
theorem w16_numbers_eq (K : Nat) (l : List dR) (n : Int) : exF Γ_w16_numbers K Tryz.f10 (.pair lR tE) (.pair .bool .unit) [] (l, n, ()) = w16_numbers K l n :=
  Eq.trans (b := w16_numbers_b (w16_numbers_k0 (w16_numbers_A0 K K)) l n) (by kernel_rfl) (by rw [w16_numbers_loop0 K K]; rfl)
theorem env_w16_numbers : EnvOK Tryz.prog G Γ_w16_numbers := ⟨T_ok, ((phi_cons fn_vec_Check phi_nil) : PhiOK Tryz.prog G Γ_w16_numbers.Φ), fun _ _ h => (by cases h), mixed⟩
theorem fn_w16_numbers : FnOK Tryz.prog G 10 en_w16_numbers := FnOK.of env_w16_numbers Tryz.func10 (by kernel_rfl) (by kernel_rfl) (of_decide_eq_true (by kernel_rfl)) (fun x y h => ⟨100, (w16_numbers_eq 100 x.1 x.2.1).trans h⟩)

noncomputable def Γ_w16_fit : Env := { T := T, Φ := fun i => bif Nat.beq i 10 then some en_w16_numbers else bif Nat.beq i 46 then some en_vec_Check else none, ann := fun i => bif Nat.beq i 4 then [(1, .c .sc), (31, .c (.own 100 22 lR)), (32, .c .sc), (33, .c .sc)] else [] }
noncomputable def w16_fit_c : Code := (Tryz.f9.body).getD .skip
noncomputable def w16_fit_fin := finish Γ_w16_fit Tryz.f9.results.toList (.pair .bool .unit) []
noncomputable def w16_fit_k0 (κ : Kt (.pair .bool .unit)) (a : Int) (b : List (List dR)) (c d : Int) := κ { t := (upd (upd (upd (upd (fun _ => .undef) 1 (.one (.int .i64 a))) 31 (.one (.own 100))) 32 (.one (.int .i64 c))) 33 (.one (.int .i64 d))), m := (upd (upd (fun _ => .free) 0 .held) 100 (.row true 22 lR b)), nx := 1000000, n := 42 }
noncomputable def w16_fit_A0 (K : Nat) := loopAt Γ_w16_fit K [.r, .r, .l, .r, .b] w16_fit_c [] w16_fit_fin (fun _ _ => none) w16_fit_fin
theorem w16_fit_loop0 (K : Nat) : ∀ n, w16_fit_k0 (w16_fit_A0 K n) = w16_fit_l0 K n
  | 0 => by kernel_rfl
  | n + 1 => Eq.trans (b := w16_fit_s0 (w16_fit_k0 (w16_fit_A0 K n))) (by kernel_rfl) (by rw [w16_fit_loop0 K n]; rfl)
theorem w16_fit_eq (K : Nat) (z : dV) (n : Int) : exF Γ_w16_fit K Tryz.f9 (.pair tV tE) (.pair .bool .unit) [] (z, n, ()) = w16_fit K z n :=
  Eq.trans (b := w16_fit_b (w16_fit_k0 (w16_fit_A0 K K)) z n) (by kernel_rfl) (by rw [w16_fit_loop0 K K]; rfl)
theorem env_w16_fit : EnvOK Tryz.prog G Γ_w16_fit := ⟨T_ok, ((phi_cons fn_w16_numbers (phi_cons fn_vec_Check phi_nil)) : PhiOK Tryz.prog G Γ_w16_fit.Φ), fun _ _ h => (by cases h), mixed⟩
theorem fn_w16_fit : FnOK Tryz.prog G 9 en_w16_fit := FnOK.of env_w16_fit Tryz.func9 (by kernel_rfl) (by kernel_rfl) (of_decide_eq_true (by kernel_rfl)) (fun x y h => ⟨100, (w16_fit_eq 100 x.1 x.2.1).trans h⟩)

noncomputable def Γ_vec_each : Env := { T := T, Φ := fun i => none, ann := fun i => bif Nat.beq i 5 then [(0, .c (.data tR)), (1, .c (.data tR)), (2, .c .sc), (8, .c (.own 100 46 tR)), (21, .c .sc), (22, .c .sc)] else [], ord := fun i => bif Nat.beq i 7 then [0, 1, 2, 3, 4, 5, 6, 7, 8, 9, 10, 11, 12, 13, 14, 15] else [] }
noncomputable def vec_each_c : Code := (Tryz.f50.body).getD .skip
noncomputable def vec_each_fin := finish Γ_vec_each Tryz.f50.results.toList (.pair lR tE) []
noncomputable def vec_each_k0 (κ : Kt (.pair lR tE)) (a b : List dR) (c : ((dR × dR × Unit) → Option (dR × Int × Unit))) (d : List dR) (e f : Int) := κ { t := (upd (upd (upd (upd (upd (upd (fun _ => .undef) 0 (.one (.sl tR a))) 1 (.one (.sl tR b))) 2 (.one (.fn (.pair tR (.pair tR .unit)) (.pair tR tE) c))) 8 (.one (.own 100))) 21 (.one (.int .i64 e))) 22 (.one (.int .i64 f))), m := (upd (upd (fun _ => .free) 0 .held) 100 (.row true 46 tR d)), nx := 1000000, n := 47 }
noncomputable def vec_each_A0 (K : Nat) := loopAt Γ_vec_each K [.r, .r, .r, .l, .r, .b] vec_each_c [] vec_each_fin (fun _ _ => none) vec_each_fin
theorem vec_each_loop0 (K : Nat) : ∀ n, vec_each_k0 (vec_each_A0 K n) = vec_each_l0 K n
  | 0 => by kernel_rfl
  | n + 1 => Eq.trans (b := vec_each_s0 (vec_each_k0 (vec_each_A0 K n))) (by kernel_rfl) (by rw [vec_each_loop0 K n]; rfl)
theorem vec_each_eq (K : Nat) (a : List dR) (b : List dR) (of : ((dR × dR × Unit) → Option (dR × Int × Unit))) : exF Γ_vec_each K Tryz.f50 (.pair lR (.pair lR (.pair (.fn (.pair tR (.pair tR .unit)) (.pair tR tE)) .unit))) (.pair lR tE) [] (a, b, of, ()) = vec_each K a b of :=
  Eq.trans (b := vec_each_b (vec_each_k0 (vec_each_A0 K K)) a b of) (by kernel_rfl) (by rw [vec_each_loop0 K K]; rfl)
theorem env_vec_each : EnvOK Tryz.prog G Γ_vec_each := ⟨T_ok, (phi_nil : PhiOK Tryz.prog G Γ_vec_each.Φ), fun _ _ h => (by cases h), mixed⟩
theorem fn_vec_each : FnOK Tryz.prog G 50 en_vec_each := FnOK.of env_vec_each Tryz.func50 (by kernel_rfl) (by kernel_rfl) (of_decide_eq_true (by kernel_rfl)) (fun x y h => ⟨100, (vec_each_eq 100 x.1 x.2.1 x.2.2.1).trans h⟩)

noncomputable def Γ_ratio_den : Env := { T := T, Φ := fun i => bif Nat.beq i 106 then some en_whole_Nat else none, ann := fun i => [] }
theorem ratio_den_eq (K : Nat) (a : dR) : exF Γ_ratio_den K Tryz.f71 (.pair tR .unit) (.pair tI .unit) [] (a, ()) = ratio_den a := by kernel_rfl
theorem env_ratio_den : EnvOK Tryz.prog G Γ_ratio_den := ⟨T_ok, ((phi_cons fn_whole_Nat phi_nil) : PhiOK Tryz.prog G Γ_ratio_den.Φ), fun _ _ h => (by cases h), mixed⟩
theorem fn_ratio_den : FnOK Tryz.prog G 71 en_ratio_den := FnOK.of env_ratio_den Tryz.func71 (by kernel_rfl) (by kernel_rfl) (of_decide_eq_true (by kernel_rfl)) (fun x y h => ⟨0, (ratio_den_eq 0 x.1).trans h⟩)

noncomputable def Γ_ratio_first : Env := { T := T, Φ := fun i => none, ann := fun i => bif Nat.beq i 2 then [(5, .c (.data (.int .i64))), (6, .c .sc), (7, .c .sc)] else [] }
noncomputable def ratio_first_c : Code := (Tryz.f72.body).getD .skip
noncomputable def ratio_first_fin := finish Γ_ratio_first Tryz.f72.results.toList tE []
noncomputable def ratio_first_k0 (κ : Kt tE) (a : List Int) (b c : Int) := κ { t := (upd (upd (upd (fun _ => .undef) 5 (.one (.sl (.int .i64) a))) 6 (.one (.int .i64 b))) 7 (.one (.int .i64 c))), m := (upd (fun _ => .free) 0 .held), nx := 1000000, n := 15 }
noncomputable def ratio_first_A0 (K : Nat) := loopAt Γ_ratio_first K [.r, .l, .r, .b] ratio_first_c [] ratio_first_fin (fun _ _ => none) ratio_first_fin
theorem ratio_first_loop0 (K : Nat) : ∀ n, ratio_first_k0 (ratio_first_A0 K n) = ratio_first_l0 K n
  | 0 => by kernel_rfl
  | n + 1 => Eq.trans (b := ratio_first_s0 (ratio_first_k0 (ratio_first_A0 K n))) (by kernel_rfl) (by rw [ratio_first_loop0 K n]; rfl)
theorem ratio_first_eq (K : Nat) (list : List Int) : exF Γ_ratio_first K Tryz.f72 (.pair (.sl (.int .i64)) .unit) tE [] (list, ()) = ratio_first K list :=
  Eq.trans (b := ratio_first_b (ratio_first_k0 (ratio_first_A0 K K)) list) (by kernel_rfl) (by rw [ratio_first_loop0 K K]; rfl)
theorem env_ratio_first : EnvOK Tryz.prog G Γ_ratio_first := ⟨T_ok, (phi_nil : PhiOK Tryz.prog G Γ_ratio_first.Φ), fun _ _ h => (by cases h), mixed⟩
theorem fn_ratio_first : FnOK Tryz.prog G 72 en_ratio_first := FnOK.of env_ratio_first Tryz.func72 (by kernel_rfl) (by kernel_rfl) (of_decide_eq_true (by kernel_rfl)) (fun x y h => by obtain ⟨K, hK⟩ := ratio_first_ok x y h; exact ⟨K, (ratio_first_eq K x.1).trans hK⟩)

noncomputable def Γ_ratio_Mul : Env := { T := T, Φ := fun i => bif Nat.beq i 34 then some en_ratio_Zero else bif Nat.beq i 53 then some en_ratio_Make else bif Nat.beq i 70 then some en_whole_Mul else bif Nat.beq i 71 then some en_ratio_den else bif Nat.beq i 72 then some en_ratio_first else none, ann := fun i => [], ord := fun i => bif Nat.beq i 2 then [0, 2, 1, 3, 4, 5, 6, 7, 8, 9, 10] else [] }
theorem ratio_Mul_eq (K : Nat) (a : dR) (b : dR) : exF Γ_ratio_Mul K Tryz.f52 (.pair tR (.pair tR .unit)) (.pair tR tE) [] (a, b, ()) = ratio_Mul a b := by kernel_rfl
theorem env_ratio_Mul : EnvOK Tryz.prog G Γ_ratio_Mul := ⟨T_ok, ((phi_cons fn_ratio_Zero (phi_cons fn_ratio_Make (phi_cons fn_whole_Mul (phi_cons fn_ratio_den (phi_cons fn_ratio_first phi_nil))))) : PhiOK Tryz.prog G Γ_ratio_Mul.Φ), fun _ _ h => (by cases h), mixed⟩
theorem fn_ratio_Mul : FnOK Tryz.prog G 52 en_ratio_Mul := FnOK.of env_ratio_Mul Tryz.func52 (by kernel_rfl) (by kernel_rfl) (of_decide_eq_true (by kernel_rfl)) (fun x y h => ⟨0, (ratio_Mul_eq 0 x.1 x.2.1).trans h⟩)

noncomputable def Γ_vec_Scale_1 : Env := { T := T, Φ := fun i => bif Nat.beq i 52 then some en_ratio_Mul else none, ann := fun i => [] }
theorem vec_Scale_1_eq (K : Nat) (x : dR) (__ : dR) (t2 : dR) : exF Γ_vec_Scale_1 K Tryz.f51 (.pair tR (.pair tR (.pair (.ptr tR) .unit))) (.pair tR tE) [] (x, __, t2, ()) = vec_Scale_1 x __ t2 := by kernel_rfl
theorem env_vec_Scale_1 : EnvOK Tryz.prog G Γ_vec_Scale_1 := ⟨T_ok, ((phi_cons fn_ratio_Mul phi_nil) : PhiOK Tryz.prog G Γ_vec_Scale_1.Φ), fun _ _ h => (by cases h), mixed⟩
theorem fn_vec_Scale_1 : FnOK Tryz.prog G 51 en_vec_Scale_1 := FnOK.of env_vec_Scale_1 Tryz.func51 (by kernel_rfl) (by kernel_rfl) (of_decide_eq_true (by kernel_rfl)) (fun x y h => ⟨0, (vec_Scale_1_eq 0 x.1 x.2.1 x.2.2.1).trans h⟩)

noncomputable def Γ_vec_Scale : Env := { T := T, Φ := fun i => bif Nat.beq i 50 then some en_vec_each else bif Nat.beq i 51 then some en_vec_Scale_1 else none, ann := fun i => [] }
theorem vec_Scale_eq (K : Nat) (a : List dR) (by_ : dR) : exF Γ_vec_Scale K Tryz.f13 (.pair lR (.pair tR .unit)) (.pair lR tE) [] (a, by_, ()) = vec_Scale a by_ := by kernel_rfl
theorem env_vec_Scale : EnvOK Tryz.prog G Γ_vec_Scale := ⟨T_ok, ((phi_cons fn_vec_each (phi_cons fn_vec_Scale_1 phi_nil)) : PhiOK Tryz.prog G Γ_vec_Scale.Φ), fun _ _ h => (by cases h), mixed⟩
theorem fn_vec_Scale : FnOK Tryz.prog G 13 en_vec_Scale := FnOK.of env_vec_Scale Tryz.func13 (by kernel_rfl) (by kernel_rfl) (of_decide_eq_true (by kernel_rfl)) (fun x y h => ⟨0, (vec_Scale_eq 0 x.1 x.2.1).trans h⟩)

noncomputable def Γ_ratio_Add : Env := { T := T, Φ := fun i => bif Nat.beq i 34 then some en_ratio_Zero else bif Nat.beq i 53 then some en_ratio_Make else bif Nat.beq i 61 then some en_whole_Add else bif Nat.beq i 70 then some en_whole_Mul else bif Nat.beq i 71 then some en_ratio_den else bif Nat.beq i 72 then some en_ratio_first else none, ann := fun i => [], ord := fun i => bif Nat.beq i 1 then [0, 1, 2, 3, 4, 5, 6, 7, 8, 9, 10] else bif Nat.beq i 2 then [0, 1, 2, 3, 4, 5, 6, 7, 8, 9, 10] else bif Nat.beq i 3 then [0, 2, 1, 3, 4, 5, 6, 7, 8, 9, 10] else [] }
theorem ratio_Add_eq (K : Nat) (a : dR) (b : dR) : exF Γ_ratio_Add K Tryz.f30 (.pair tR (.pair tR .unit)) (.pair tR tE) [] (a, b, ()) = ratio_Add a b := by kernel_rfl
theorem env_ratio_Add : EnvOK Tryz.prog G Γ_ratio_Add := ⟨T_ok, ((phi_cons fn_ratio_Zero (phi_cons fn_ratio_Make (phi_cons fn_whole_Add (phi_cons fn_whole_Mul (phi_cons fn_ratio_den (phi_cons fn_ratio_first phi_nil)))))) : PhiOK Tryz.prog G Γ_ratio_Add.Φ), fun _ _ h => (by cases h), mixed⟩
theorem fn_ratio_Add : FnOK Tryz.prog G 30 en_ratio_Add := FnOK.of env_ratio_Add Tryz.func30 (by kernel_rfl) (by kernel_rfl) (of_decide_eq_true (by kernel_rfl)) (fun x y h => ⟨0, (ratio_Add_eq 0 x.1 x.2.1).trans h⟩)

noncomputable def Γ_vec_Add : Env := { T := T, Φ := fun i => bif Nat.beq i 30 then some en_ratio_Add else bif Nat.beq i 50 then some en_vec_each else none, ann := fun i => [] }
theorem vec_Add_eq (K : Nat) (a : List dR) (b : List dR) : exF Γ_vec_Add K Tryz.f31 (.pair lR (.pair lR .unit)) (.pair lR tE) [] (a, b, ()) = vec_Add a b := by kernel_rfl
theorem env_vec_Add : EnvOK Tryz.prog G Γ_vec_Add := ⟨T_ok, ((phi_cons fn_ratio_Add (phi_cons fn_vec_each phi_nil)) : PhiOK Tryz.prog G Γ_vec_Add.Φ), fun _ _ h => (by cases h), mixed⟩
theorem fn_vec_Add : FnOK Tryz.prog G 31 en_vec_Add := FnOK.of env_vec_Add Tryz.func31 (by kernel_rfl) (by kernel_rfl) (of_decide_eq_true (by kernel_rfl)) (fun x y h => ⟨0, (vec_Add_eq 0 x.1 x.2.1).trans h⟩)

noncomputable def Γ_ratio_Compare : Env := { T := T, Φ := fun i => bif Nat.beq i 70 then some en_whole_Mul else bif Nat.beq i 71 then some en_ratio_den else bif Nat.beq i 72 then some en_ratio_first else bif Nat.beq i 73 then some en_whole_Compare else none, ann := fun i => [], ord := fun i => bif Nat.beq i 1 then [0, 1, 2, 3, 4, 5, 6, 7, 8, 9, 10] else bif Nat.beq i 2 then [0, 1, 2, 3, 4, 5, 6, 7, 8, 9, 10] else [] }
theorem ratio_Compare_eq (K : Nat) (a : dR) (b : dR) : exF Γ_ratio_Compare K Tryz.f32 (.pair tR (.pair tR .unit)) (.pair (.int .i64) tE) [] (a, b, ()) = ratio_Compare a b := by kernel_rfl
theorem env_ratio_Compare : EnvOK Tryz.prog G Γ_ratio_Compare := ⟨T_ok, ((phi_cons fn_whole_Mul (phi_cons fn_ratio_den (phi_cons fn_ratio_first (phi_cons fn_whole_Compare phi_nil)))) : PhiOK Tryz.prog G Γ_ratio_Compare.Φ), fun _ _ h => (by cases h), mixed⟩
theorem fn_ratio_Compare : FnOK Tryz.prog G 32 en_ratio_Compare := FnOK.of env_ratio_Compare Tryz.func32 (by kernel_rfl) (by kernel_rfl) (of_decide_eq_true (by kernel_rfl)) (fun x y h => ⟨0, (ratio_Compare_eq 0 x.1 x.2.1).trans h⟩)

noncomputable def Γ_ratio_Abs : Env := { T := T, Φ := fun i => bif Nat.beq i 74 then some en_whole_Abs else bif Nat.beq i 75 then some en_slices_Clone_api_Nat_uint32 else none, ann := fun i => [], ord := fun i => bif Nat.beq i 1 then [0, 1, 3, 4, 2, 5, 6, 7] else [] }
theorem ratio_Abs_eq (K : Nat) (a : dR) : exF Γ_ratio_Abs K Tryz.f33 (.pair tR .unit) (.pair tR .unit) [] (a, ()) = ratio_Abs a := by kernel_rfl
theorem env_ratio_Abs : EnvOK Tryz.prog G Γ_ratio_Abs := ⟨T_ok, ((phi_cons fn_whole_Abs (phi_cons fn_slices_Clone_api_Nat_uint32 phi_nil)) : PhiOK Tryz.prog G Γ_ratio_Abs.Φ), fun _ _ h => (by cases h), mixed⟩
theorem fn_ratio_Abs : FnOK Tryz.prog G 33 en_ratio_Abs := FnOK.of env_ratio_Abs Tryz.func33 (by kernel_rfl) (by kernel_rfl) (of_decide_eq_true (by kernel_rfl)) (fun x y h => ⟨0, (ratio_Abs_eq 0 x.1).trans h⟩)

noncomputable def Γ_model_Point : Env := { T := T, Φ := fun i => bif Nat.beq i 13 then some en_vec_Scale else bif Nat.beq i 14 then some en_ratio_Of else bif Nat.beq i 31 then some en_vec_Add else bif Nat.beq i 32 then some en_ratio_Compare else bif Nat.beq i 33 then some en_ratio_Abs else none, ann := fun i => bif Nat.beq i 6 then [(1, .c (.data tR)), (6, .c (.data tR)), (28, .c (.data lR)), (29, .c .sc), (30, .c .sc)] else [] }
noncomputable def model_Point_c : Code := (Tryz.f69.body).getD .skip
noncomputable def model_Point_fin := finish Γ_model_Point Tryz.f69.results.toList (.pair lR tE) []
noncomputable def model_Point_k0 (κ : Kt (.pair lR tE)) (a b : List dR) (c : List (List dR)) (d e : Int) := κ { t := (upd (upd (upd (upd (upd (fun _ => .undef) 1 (.one (.sl tR a))) 6 (.one (.sl tR b))) 28 (.one (.sl lR c))) 29 (.one (.int .i64 d))) 30 (.one (.int .i64 e))), m := (upd (fun _ => .free) 0 .held), nx := 1000000, n := 74 }
noncomputable def model_Point_A0 (K : Nat) := loopAt Γ_model_Point K [.r, .r, .r, .r, .l, .r, .b] model_Point_c [] model_Point_fin (fun _ _ => none) model_Point_fin
theorem model_Point_loop0 (K : Nat) : ∀ n, model_Point_k0 (model_Point_A0 K n) = model_Point_l0 K n
  | 0 => by kernel_rfl
  | n + 1 => Eq.trans (b := model_Point_s0 (model_Point_k0 (model_Point_A0 K n))) (by kernel_rfl) (by rw [model_Point_loop0 K n]; rfl)
theorem model_Point_eq (K : Nat) (z : dV) (by_ : List dR) : exF Γ_model_Point K Tryz.f69 (.pair tV (.pair lR .unit)) (.pair lR tE) [] (z, by_, ()) = model_Point K z by_ :=
  Eq.trans (b := model_Point_b (model_Point_k0 (model_Point_A0 K K)) z by_) (by kernel_rfl) (by rw [model_Point_loop0 K K]; rfl)
theorem env_model_Point : EnvOK Tryz.prog G Γ_model_Point := ⟨T_ok, ((phi_cons fn_vec_Scale (phi_cons fn_ratio_Of (phi_cons fn_vec_Add (phi_cons fn_ratio_Compare (phi_cons fn_ratio_Abs phi_nil))))) : PhiOK Tryz.prog G Γ_model_Point.Φ), fun _ _ h => (by cases h), mixed⟩
theorem fn_model_Point : FnOK Tryz.prog G 69 en_model_Point := FnOK.of env_model_Point Tryz.func69 (by kernel_rfl) (by kernel_rfl) (of_decide_eq_true (by kernel_rfl)) (fun x y h => ⟨100, (model_Point_eq 100 x.1 x.2.1).trans h⟩)

noncomputable def Γ_w16_corner : Env := { T := T, Φ := fun i => bif Nat.beq i 14 then some en_ratio_Of else bif Nat.beq i 69 then some en_model_Point else none, ann := fun i => bif Nat.beq i 3 then [(1, .c .sc), (2, .var 100 [.data tR, .data lR]), (5, .c (.own 101 46 tR)), (11, .c .sc), (12, .c .sc)] else [] }
noncomputable def w16_corner_c : Code := (Tryz.f28.body).getD .skip
noncomputable def w16_corner_fin := finish Γ_w16_corner Tryz.f28.results.toList (.pair lR .unit) []
noncomputable def w16_corner_k0 (κ : Kt (.pair lR .unit)) (a : Int) (b : List dR) (c : List (List dR)) (d : List dR) (e f : Int) := κ { t := (upd (upd (upd (upd (upd (fun _ => .undef) 1 (.one (.int .i64 a))) 2 (.one (.vptr 100 0))) 5 (.one (.own 101))) 11 (.one (.int .i64 e))) 12 (.one (.int .i64 f))), m := (upd (upd (upd (fun _ => .free) 0 .held) 100 (.var true [.sl tR b, .sl lR c])) 101 (.row true 46 tR d)), nx := 1000000, n := 33 }
noncomputable def w16_corner_A0 (K : Nat) := loopAt Γ_w16_corner K [.r, .r, .l, .r, .b] w16_corner_c [] w16_corner_fin (fun _ _ => none) w16_corner_fin
theorem w16_corner_loop0 (K : Nat) : ∀ n, w16_corner_k0 (w16_corner_A0 K n) = w16_corner_l0 K n
  | 0 => by kernel_rfl
  | n + 1 => Eq.trans (b := w16_corner_s0 (w16_corner_k0 (w16_corner_A0 K n))) (by kernel_rfl) (by rw [w16_corner_loop0 K n]; rfl)
theorem w16_corner_eq (K : Nat) (z : dV) (which : Int) : exF Γ_w16_corner K Tryz.f28 (.pair tV tE) (.pair lR .unit) [] (z, which, ()) = w16_corner K z which :=
  Eq.trans (b := w16_corner_b (w16_corner_k0 (w16_corner_A0 K K)) z which) (by kernel_rfl) (by rw [w16_corner_loop0 K K]; rfl)
theorem env_w16_corner : EnvOK Tryz.prog G Γ_w16_corner := ⟨T_ok, ((phi_cons fn_ratio_Of (phi_cons fn_model_Point phi_nil)) : PhiOK Tryz.prog G Γ_w16_corner.Φ), fun _ _ h => (by cases h), mixed⟩
theorem fn_w16_corner : FnOK Tryz.prog G 28 en_w16_corner := FnOK.of env_w16_corner Tryz.func28 (by kernel_rfl) (by kernel_rfl) (of_decide_eq_true (by kernel_rfl)) (fun x y h => ⟨100, (w16_corner_eq 100 x.1 x.2.1).trans h⟩)

noncomputable def Γ_ratio_Sum : Env := { T := T, Φ := fun i => bif Nat.beq i 30 then some en_ratio_Add else bif Nat.beq i 34 then some en_ratio_Zero else none, ann := fun i => bif Nat.beq i 3 then [(2, .var 100 [.sc, .data (.int .u32), .data (.int .u32)]), (4, .var 101 [.sc, .data (.int .u32), .data (.int .u32)]), (9, .c (.data tR)), (10, .c .sc), (11, .c .sc)] else [] }
noncomputable def ratio_Sum_c : Code := (Tryz.f77.body).getD .skip
noncomputable def ratio_Sum_fin := finish Γ_ratio_Sum Tryz.f77.results.toList (.pair tR tE) []
noncomputable def ratio_Sum_k0 (κ : Kt (.pair tR tE)) (a : Bool) (b c : List Int) (d : Bool) (e f : List Int) (g : List dR) (h i : Int) := κ { t := (upd (upd (upd (upd (upd (fun _ => .undef) 2 (.one (.vptr 100 0))) 4 (.one (.vptr 101 0))) 9 (.one (.sl tR g))) 10 (.one (.int .i64 h))) 11 (.one (.int .i64 i))), m := (upd (upd (upd (fun _ => .free) 0 .held) 100 (.var true [.bool a, .sl (.int .u32) b, .sl (.int .u32) c])) 101 (.var true [.bool d, .sl (.int .u32) e, .sl (.int .u32) f])), nx := 1000000, n := 27 }
noncomputable def ratio_Sum_A0 (K : Nat) := loopAt Γ_ratio_Sum K [.r, .r, .l, .r, .b] ratio_Sum_c [] ratio_Sum_fin (fun _ _ => none) ratio_Sum_fin
theorem ratio_Sum_loop0 (K : Nat) : ∀ n, ratio_Sum_k0 (ratio_Sum_A0 K n) = ratio_Sum_l0 K n
  | 0 => by kernel_rfl
  | n + 1 => Eq.trans (b := ratio_Sum_s0 (ratio_Sum_k0 (ratio_Sum_A0 K n))) (by kernel_rfl) (by rw [ratio_Sum_loop0 K n]; rfl)
theorem ratio_Sum_eq (K : Nat) (list : List dR) : exF Γ_ratio_Sum K Tryz.f77 (.pair lR .unit) (.pair tR tE) [] (list, ()) = ratio_Sum K list :=
  Eq.trans (b := ratio_Sum_b (ratio_Sum_k0 (ratio_Sum_A0 K K)) list) (by kernel_rfl) (by rw [ratio_Sum_loop0 K K]; rfl)
theorem env_ratio_Sum : EnvOK Tryz.prog G Γ_ratio_Sum := ⟨T_ok, ((phi_cons fn_ratio_Add (phi_cons fn_ratio_Zero phi_nil)) : PhiOK Tryz.prog G Γ_ratio_Sum.Φ), fun _ _ h => (by cases h), mixed⟩
theorem fn_ratio_Sum : FnOK Tryz.prog G 77 en_ratio_Sum := FnOK.of env_ratio_Sum Tryz.func77 (by kernel_rfl) (by kernel_rfl) (of_decide_eq_true (by kernel_rfl)) (fun x y h => ⟨100, (ratio_Sum_eq 100 x.1).trans h⟩)

noncomputable def Γ_vec_Dot : Env := { T := T, Φ := fun i => bif Nat.beq i 34 then some en_ratio_Zero else bif Nat.beq i 50 then some en_vec_each else bif Nat.beq i 52 then some en_ratio_Mul else bif Nat.beq i 77 then some en_ratio_Sum else none, ann := fun i => [] }
theorem vec_Dot_eq (K : Nat) (a : List dR) (b : List dR) : exF Γ_vec_Dot K Tryz.f35 (.pair lR (.pair lR .unit)) (.pair tR tE) [] (a, b, ()) = vec_Dot a b := by kernel_rfl
theorem env_vec_Dot : EnvOK Tryz.prog G Γ_vec_Dot := ⟨T_ok, ((phi_cons fn_ratio_Zero (phi_cons fn_vec_each (phi_cons fn_ratio_Mul (phi_cons fn_ratio_Sum phi_nil)))) : PhiOK Tryz.prog G Γ_vec_Dot.Φ), fun _ _ h => (by cases h), mixed⟩
theorem fn_vec_Dot : FnOK Tryz.prog G 35 en_vec_Dot := FnOK.of env_vec_Dot Tryz.func35 (by kernel_rfl) (by kernel_rfl) (of_decide_eq_true (by kernel_rfl)) (fun x y h => ⟨0, (vec_Dot_eq 0 x.1 x.2.1).trans h⟩)

noncomputable def Γ_ratio_Whole : Env := { T := T, Φ := fun i => bif Nat.beq i 75 then some en_slices_Clone_api_Nat_uint32 else bif Nat.beq i 76 then some en_limbs_Of else none, ann := fun i => [], ord := fun i => bif Nat.beq i 1 then [0, 1, 2, 3, 4, 5, 6, 7, 8] else [] }
theorem ratio_Whole_eq (K : Nat) (a : dI) : exF Γ_ratio_Whole K Tryz.f108 (.pair tI .unit) (.pair tR .unit) [] (a, ()) = ratio_Whole a := by kernel_rfl
theorem env_ratio_Whole : EnvOK Tryz.prog G Γ_ratio_Whole := ⟨T_ok, ((phi_cons fn_slices_Clone_api_Nat_uint32 (phi_cons fn_limbs_Of phi_nil)) : PhiOK Tryz.prog G Γ_ratio_Whole.Φ), fun _ _ h => (by cases h), mixed⟩
theorem fn_ratio_Whole : FnOK Tryz.prog G 108 en_ratio_Whole := FnOK.of env_ratio_Whole Tryz.func108 (by kernel_rfl) (by kernel_rfl) (of_decide_eq_true (by kernel_rfl)) (fun x y h => ⟨0, (ratio_Whole_eq 0 x.1).trans h⟩)

noncomputable def Γ_dyad_Ratio : Env := { T := T, Φ := fun i => bif Nat.beq i 34 then some en_ratio_Zero else bif Nat.beq i 53 then some en_ratio_Make else bif Nat.beq i 76 then some en_limbs_Of else bif Nat.beq i 94 then some en_whole_Left else bif Nat.beq i 106 then some en_whole_Nat else bif Nat.beq i 108 then some en_ratio_Whole else bif Nat.beq i 109 then some en_limbs_Left else none, ann := fun i => [], ord := fun i => bif Nat.beq i 6 then [1, 2, 3, 0, 4, 5, 6, 7, 8, 9] else bif Nat.beq i 9 then [0, 1, 2, 3, 4, 5, 6, 7, 8] else [] }
theorem dyad_Ratio_eq (K : Nat) (a : dY) : exF Γ_dyad_Ratio K Tryz.f78 (.pair tY .unit) (.pair tR tE) [] (a, ()) = dyad_Ratio a := by kernel_rfl
theorem env_dyad_Ratio : EnvOK Tryz.prog G Γ_dyad_Ratio := ⟨T_ok, ((phi_cons fn_ratio_Zero (phi_cons fn_ratio_Make (phi_cons fn_limbs_Of (phi_cons fn_whole_Left (phi_cons fn_whole_Nat (phi_cons fn_ratio_Whole (phi_cons fn_limbs_Left phi_nil))))))) : PhiOK Tryz.prog G Γ_dyad_Ratio.Φ), fun _ _ h => (by cases h), mixed⟩
theorem fn_dyad_Ratio : FnOK Tryz.prog G 78 en_dyad_Ratio := FnOK.of env_dyad_Ratio Tryz.func78 (by kernel_rfl) (by kernel_rfl) (of_decide_eq_true (by kernel_rfl)) (fun x y h => ⟨0, (dyad_Ratio_eq 0 x.1).trans h⟩)

noncomputable def Γ_dyad_Cmp : Env := { T := T, Φ := fun i => bif Nat.beq i 32 then some en_ratio_Compare else bif Nat.beq i 78 then some en_dyad_Ratio else none, ann := fun i => [] }
theorem dyad_Cmp_eq (K : Nat) (a : dY) (b : dR) : exF Γ_dyad_Cmp K Tryz.f36 (.pair tY (.pair tR .unit)) (.pair (.int .i64) tE) [] (a, b, ()) = dyad_Cmp a b := by kernel_rfl
theorem env_dyad_Cmp : EnvOK Tryz.prog G Γ_dyad_Cmp := ⟨T_ok, ((phi_cons fn_ratio_Compare (phi_cons fn_dyad_Ratio phi_nil)) : PhiOK Tryz.prog G Γ_dyad_Cmp.Φ), fun _ _ h => (by cases h), mixed⟩
theorem fn_dyad_Cmp : FnOK Tryz.prog G 36 en_dyad_Cmp := FnOK.of env_dyad_Cmp Tryz.func36 (by kernel_rfl) (by kernel_rfl) (of_decide_eq_true (by kernel_rfl)) (fun x y h => ⟨0, (dyad_Cmp_eq 0 x.1 x.2.1).trans h⟩)

noncomputable def Γ_w16_within : Env := { T := T, Φ := fun i => bif Nat.beq i 12 then some en_vec_Near else bif Nat.beq i 15 then some en_zono_Support else bif Nat.beq i 35 then some en_vec_Dot else bif Nat.beq i 36 then some en_dyad_Cmp else none, ann := fun i => [] }
theorem w16_within_eq (K : Nat) (z : dZ) (p : List dR) (dir : List dR) (bits : Int) : exF Γ_w16_within K Tryz.f29 (.pair tZ (.pair lR (.pair lR tE))) (.pair .bool .unit) [] (z, p, dir, bits, ()) = w16_within z p dir bits := by kernel_rfl
theorem env_w16_within : EnvOK Tryz.prog G Γ_w16_within := ⟨T_ok, ((phi_cons fn_vec_Near (phi_cons fn_zono_Support (phi_cons fn_vec_Dot (phi_cons fn_dyad_Cmp phi_nil)))) : PhiOK Tryz.prog G Γ_w16_within.Φ), fun _ _ h => (by cases h), mixed⟩
theorem fn_w16_within : FnOK Tryz.prog G 29 en_w16_within := FnOK.of env_w16_within Tryz.func29 (by kernel_rfl) (by kernel_rfl) (of_decide_eq_true (by kernel_rfl)) (fun x y h => ⟨0, (w16_within_eq 0 x.1 x.2.1 x.2.2.1 x.2.2.2.1).trans h⟩)

noncomputable def Γ_mat_Apply : Env := { T := T, Φ := fun i => bif Nat.beq i 35 then some en_vec_Dot else none, ann := fun i => bif Nat.beq i 3 then [(1, .c (.data tR)), (6, .c (.own 100 46 tR)), (14, .c (.data lR)), (15, .c .sc), (16, .c .sc)] else [] }
noncomputable def mat_Apply_c : Code := (Tryz.f39.body).getD .skip
noncomputable def mat_Apply_fin := finish Γ_mat_Apply Tryz.f39.results.toList (.pair lR tE) []
noncomputable def mat_Apply_k0 (κ : Kt (.pair lR tE)) (a b : List dR) (c : List (List dR)) (d e : Int) := κ { t := (upd (upd (upd (upd (upd (fun _ => .undef) 1 (.one (.sl tR a))) 6 (.one (.own 100))) 14 (.one (.sl lR c))) 15 (.one (.int .i64 d))) 16 (.one (.int .i64 e))), m := (upd (upd (fun _ => .free) 0 .held) 100 (.row true 46 tR b)), nx := 1000000, n := 36 }
noncomputable def mat_Apply_A0 (K : Nat) := loopAt Γ_mat_Apply K [.r, .r, .l, .r, .b] mat_Apply_c [] mat_Apply_fin (fun _ _ => none) mat_Apply_fin
theorem mat_Apply_loop0 (K : Nat) : ∀ n, mat_Apply_k0 (mat_Apply_A0 K n) = mat_Apply_l0 K n
  | 0 => by kernel_rfl
  | n + 1 => Eq.trans (b := mat_Apply_s0 (mat_Apply_k0 (mat_Apply_A0 K n))) (by kernel_rfl) (by rw [mat_Apply_loop0 K n]; rfl)
theorem mat_Apply_eq (K : Nat) (a : List (List dR)) (x : List dR) : exF Γ_mat_Apply K Tryz.f39 (.pair (.sl lR) (.pair lR .unit)) (.pair lR tE) [] (a, x, ()) = mat_Apply K a x :=
  Eq.trans (b := mat_Apply_b (mat_Apply_k0 (mat_Apply_A0 K K)) a x) (by kernel_rfl) (by rw [mat_Apply_loop0 K K]; rfl)
theorem env_mat_Apply : EnvOK Tryz.prog G Γ_mat_Apply := ⟨T_ok, ((phi_cons fn_vec_Dot phi_nil) : PhiOK Tryz.prog G Γ_mat_Apply.Φ), fun _ _ h => (by cases h), mixed⟩
theorem fn_mat_Apply : FnOK Tryz.prog G 39 en_mat_Apply := FnOK.of env_mat_Apply Tryz.func39 (by kernel_rfl) (by kernel_rfl) (of_decide_eq_true (by kernel_rfl)) (fun x y h => ⟨100, (mat_Apply_eq 100 x.1 x.2.1).trans h⟩)

noncomputable def Γ_w16_ZonoImages : Env := { T := T, Φ := fun i => bif Nat.beq i 8 then some en_w16_spreads else bif Nat.beq i 9 then some en_w16_fit else bif Nat.beq i 10 then some en_w16_numbers else bif Nat.beq i 11 then some en_zono_Of else bif Nat.beq i 27 then some en_zono_Check else bif Nat.beq i 28 then some en_w16_corner else bif Nat.beq i 29 then some en_w16_within else bif Nat.beq i 37 then some en_mat_Near else bif Nat.beq i 38 then some en_zono_Image else bif Nat.beq i 39 then some en_mat_Apply else none, ann := fun i => bif Nat.beq i 9 then [(2, .c .sc), (3, .var 100 [.data tR, .data lR]), (4, .var 101 [.data tR, .data tR]), (7, .c (.data tR)), (8, .c .sc), (9, .c (.own 102 22 lR)), (53, .c .sc), (54, .c .sc)] else bif Nat.beq i 21 then [(2, .c .sc), (3, .var 100 [.data tR, .data lR]), (7, .c (.data tR)), (9, .c (.data lR)), (15, .var 101 [.data tY, .data lY, .data tY]), (113, .c .sc), (114, .c .sc)] else [] }
noncomputable def w16_ZonoImages_c : Code := (Tryz.f6.body).getD .skip
noncomputable def w16_ZonoImages_fin := finish Γ_w16_ZonoImages Tryz.f6.results.toList (.pair .bool .unit) []
noncomputable def w16_ZonoImages_k0 (κ : Kt (.pair .bool .unit)) (a : Int) (b : List dR) (c : List (List dR)) (d e f : List dR) (g : Int) (h : List (List dR)) (i j : Int) := κ { t := (upd (upd (upd (upd (upd (upd (upd (upd (fun _ => .undef) 2 (.one (.int .i64 a))) 3 (.one (.vptr 100 0))) 4 (.one (.vptr 101 0))) 7 (.one (.sl tR f))) 8 (.one (.int .i64 g))) 9 (.one (.own 102))) 53 (.one (.int .i64 i))) 54 (.one (.int .i64 j))), m := (upd (upd (upd (upd (fun _ => .free) 0 .held) 100 (.var true [.sl tR b, .sl lR c])) 101 (.var true [.sl tR d, .sl tR e])) 102 (.row true 22 lR h)), nx := 1000000, n := 136 }
noncomputable def w16_ZonoImages_k1 (κ : Kt (.pair .bool .unit)) (a : Int) (b : List dR) (c : List (List dR)) (d : List dR) (e : List (List dR)) (f : List dY) (g : List (List dY)) (h : List dY) (i j : Int) := κ { t := (upd (upd (upd (upd (upd (upd (upd (fun _ => .undef) 2 (.one (.int .i64 a))) 3 (.one (.vptr 100 0))) 7 (.one (.sl tR d))) 9 (.one (.sl lR e))) 15 (.one (.vptr 101 0))) 113 (.one (.int .i64 i))) 114 (.one (.int .i64 j))), m := (upd (upd (upd (fun _ => .free) 0 .held) 100 (.var true [.sl tR b, .sl lR c])) 101 (.var true [.sl tY f, .sl lY g, .sl tY h])), nx := 1000000, n := 136 }
noncomputable def w16_ZonoImages_A1 (K : Nat) (κ0 : Kt (.pair .bool .unit)) := loopAt Γ_w16_ZonoImages K [.r, .r, .r, .r, .r, .r, .r, .r, .r, .r, .r, .l, .r, .b] w16_ZonoImages_c [] w16_ZonoImages_fin (fun _ _ => none) w16_ZonoImages_fin
theorem w16_ZonoImages_loop1 (K : Nat) (κ0 : Kt (.pair .bool .unit)) : ∀ n, w16_ZonoImages_k1 (w16_ZonoImages_A1 K κ0 n) = w16_ZonoImages_l1 K (w16_ZonoImages_k0 κ0) n
  | 0 => by kernel_rfl
  | n + 1 => Eq.trans (b := w16_ZonoImages_s1 (w16_ZonoImages_k0 κ0) (w16_ZonoImages_k1 (w16_ZonoImages_A1 K κ0 n))) (by kernel_rfl) (by rw [w16_ZonoImages_loop1 K κ0 n]; rfl)
noncomputable def w16_ZonoImages_A0 (K : Nat) := loopAt Γ_w16_ZonoImages K [.r, .r, .r, .r, .r, .r, .l, .r, .b] w16_ZonoImages_c [] w16_ZonoImages_fin (fun _ _ => none) w16_ZonoImages_fin
theorem w16_ZonoImages_loop0 (K : Nat) : ∀ n, w16_ZonoImages_k0 (w16_ZonoImages_A0 K n) = w16_ZonoImages_l0 K n
  | 0 => by kernel_rfl
  | n + 1 => Eq.trans (b := w16_ZonoImages_s0 (w16_ZonoImages_k1 (w16_ZonoImages_A1 K (w16_ZonoImages_A0 K n) K)) (w16_ZonoImages_k0 (w16_ZonoImages_A0 K n))) (by kernel_rfl) (by rw [w16_ZonoImages_loop1 K (w16_ZonoImages_A0 K n) K, w16_ZonoImages_loop0 K n]; rfl)
theorem w16_ZonoImages_eq (K : Nat) (z : dV) (list : (List dR) × (List dR) × Unit) (bits : Int) : exF Γ_w16_ZonoImages K Tryz.f6 (.pair tV (.pair (.pair lR (.pair lR .unit)) tE)) (.pair .bool .unit) [] (z, list, bits, ()) = w16_ZonoImages K z list bits :=
  Eq.trans (b := w16_ZonoImages_b (w16_ZonoImages_k0 (w16_ZonoImages_A0 K K)) z list bits) (by kernel_rfl) (by rw [w16_ZonoImages_loop0 K K]; rfl)
theorem env_w16_ZonoImages : EnvOK Tryz.prog G Γ_w16_ZonoImages := ⟨T_ok, ((phi_cons fn_w16_spreads (phi_cons fn_w16_fit (phi_cons fn_w16_numbers (phi_cons fn_zono_Of (phi_cons fn_zono_Check (phi_cons fn_w16_corner (phi_cons fn_w16_within (phi_cons fn_mat_Near (phi_cons fn_zono_Image (phi_cons fn_mat_Apply phi_nil)))))))))) : PhiOK Tryz.prog G Γ_w16_ZonoImages.Φ), fun _ _ h => (by cases h), mixed⟩
theorem fn_w16_ZonoImages : FnOK Tryz.prog G 6 en_w16_ZonoImages := FnOK.of env_w16_ZonoImages Tryz.func6 (by kernel_rfl) (by kernel_rfl) (of_decide_eq_true (by kernel_rfl)) (fun x y h => ⟨100, (w16_ZonoImages_eq 100 x.1 x.2.1 x.2.2.1).trans h⟩)

end Go.L

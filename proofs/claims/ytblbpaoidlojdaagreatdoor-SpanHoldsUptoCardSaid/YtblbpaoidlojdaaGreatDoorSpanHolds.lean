/-
  The law SpanHolds holds of every input whose reading is of bulk at most 1048576 (the second form); the listed table holds what its initialiser lays.
  No condition beyond those that each theorem names.
-/
import Derived.Test.YtblbpaoidlojdaaGreatDoorG

/-! CloseSpanHolds -/
namespace Go.Proofs.YtblbpaoidlojdaaGreatDoor.spanHolds
open Go Go.PM Go.L Go.ChangeShapes Go.WideShapes Go.ChangeAt Go.RowKit
set_option maxRecDepth 100000
set_option linter.unusedVariables false
theorem law : ∀ x : Den (.pair (.pair (.pair (.pair .bool (.pair (.sl (.int .u32)) .unit)) (.pair (.int .i64) .unit)) (.pair (.pair (.pair .bool (.pair (.sl (.int .u32)) .unit)) (.pair (.int .i64) .unit)) .unit)) (.pair (.pair (.pair (.pair .bool (.pair (.sl (.int .u32)) .unit)) (.pair (.int .i64) .unit)) (.pair (.pair (.pair .bool (.pair (.sl (.int .u32)) .unit)) (.pair (.int .i64) .unit)) .unit)) (.pair (.pair (.int .i64) (.pair (.int .i64) (.pair (.int .i64) .unit))) .unit))), InD 1048576 (.pair (.pair (.pair (.pair .bool (.pair (.sl (.int .u32)) .unit)) (.pair (.int .i64) .unit)) (.pair (.pair (.pair .bool (.pair (.sl (.int .u32)) .unit)) (.pair (.int .i64) .unit)) .unit)) (.pair (.pair (.pair (.pair .bool (.pair (.sl (.int .u32)) .unit)) (.pair (.int .i64) .unit)) (.pair (.pair (.pair .bool (.pair (.sl (.int .u32)) .unit)) (.pair (.int .i64) .unit)) .unit)) (.pair (.pair (.int .i64) (.pair (.int .i64) (.pair (.int .i64) .unit))) .unit))) x → (fun x : Den (.pair (.pair (.pair (.pair .bool (.pair (.sl (.int .u32)) .unit)) (.pair (.int .i64) .unit)) (.pair (.pair (.pair .bool (.pair (.sl (.int .u32)) .unit)) (.pair (.int .i64) .unit)) .unit)) (.pair (.pair (.pair (.pair .bool (.pair (.sl (.int .u32)) .unit)) (.pair (.int .i64) .unit)) (.pair (.pair (.pair .bool (.pair (.sl (.int .u32)) .unit)) (.pair (.int .i64) .unit)) .unit)) (.pair (.pair (.int .i64) (.pair (.int .i64) (.pair (.int .i64) .unit))) .unit))) => w06_SpanHolds x.1 x.2.1 x.2.2.1) x = some (true, ()) := fun x h => SpanHolds_true (inS_of h.1) (inS_of h.2.1)
theorem contract (H : Type) (enc : TypeId × Value → H) (W : World) (base : Nat) (args : Array Value) (ds gs : List (DataW H)) (before : List MemPlace)
    (hval : ∀ (j : Nat) t v, Tryz.f8.params[j]? = some t → args[j]? = some v → Value.okWide Tryz.prog W .any base t v)
    (hW : DataW.Whole enc Tryz.prog Tryz.f8.params.toList Rows.spanHoldsSpec.vars false W args.toList ds gs before) (hL : laidMetH Tryz.prog Rows.spanHoldsUptoRow.laid W) (hb : Rows.uptoSmall H (ds ++ gs) = true) :
    Calls Tryz.prog 8 args W fun e W' => ∃ v, e = .returned v ∧ Rows.spanHoldsSpec.post enc Tryz.prog Tryz.f8 false true false false W args v W' := by
  have pr29 : Tryz.prog.readableRec 29 = true ∧ 29 < Tryz.prog.types.size := ⟨by kernel_rfl, of_decide_eq_true (by kernel_rfl)⟩
  have pr65 : Tryz.prog.readableRec 65 = true ∧ 65 < Tryz.prog.types.size := ⟨by kernel_rfl, of_decide_eq_true (by kernel_rfl)⟩
  exact law_contract T_ok bulkLaw fn_w06_SpanHolds (f := 8) (by kernel_rfl) law Tryz.underlying4 (by kernel_rfl) rfl
    (fun ds hds => by rw [Tryz.params8] at hds; match ds, hds with | [d1, d2, d3], _ => rfl) Tryz.laidOut (by rw [Tryz.params8]; intro t ht; simp only [List.mem_cons, List.not_mem_nil, or_false] at ht; rcases ht with rfl | rfl | rfl <;> first | exact pr29 | exact pr65)
    hval hW (glob rfl hL) (fun d hd => small_all hb d (List.mem_append.2 (.inl hd)))
theorem laid_met (os : Os) : laidMet Tryz.prog Rows.spanHoldsUptoRow.laid ((laidWorld os).forCall (fun _ _ => 0) ⟨#[], #[.agg #[.bool false, .slice none 0 0, .int .i64 0, .bool false, .slice none 0 0, .int .i64 0], .agg #[.bool false, .slice none 0 0, .int .i64 0, .bool false, .slice none 0 0, .int .i64 0], .agg #[.int .i64 0, .int .i64 0, .int .i64 0]], []⟩).memory :=
  laidMet_of_run' 8 (by kernel_rfl) (by kernel_rfl)
theorem reads (os : Os) {H : Type} (enc : TypeId × Value → H) : ∃ places, DataW.whole enc Tryz.prog ((laidWorld os).forCall (fun _ _ => 0) ⟨#[], #[.agg #[.bool false, .slice none 0 0, .int .i64 0, .bool false, .slice none 0 0, .int .i64 0], .agg #[.bool false, .slice none 0 0, .int .i64 0, .bool false, .slice none 0 0, .int .i64 0], .agg #[.int .i64 0, .int .i64 0, .int .i64 0]], []⟩).memory Tryz.f8.params.toList Rows.spanHoldsSpec.vars false #[Value.agg #[.bool false, .slice none 0 0, .int .i64 0, .bool false, .slice none 0 0, .int .i64 0], .agg #[.bool false, .slice none 0 0, .int .i64 0, .bool false, .slice none 0 0, .int .i64 0], .agg #[.int .i64 0, .int .i64 0, .int .i64 0]].toList 8 = some ([.agg [.agg [.agg [.lit (.bool false), .nil], .lit (.int .i64 0)], .agg [.agg [.lit (.bool false), .nil], .lit (.int .i64 0)]], .agg [.agg [.agg [.lit (.bool false), .nil], .lit (.int .i64 0)], .agg [.agg [.lit (.bool false), .nil], .lit (.int .i64 0)]], .agg [.lit (.int .i64 0), .lit (.int .i64 0), .lit (.int .i64 0)]], [], places) :=
  ⟨[], by kernel_rfl⟩
theorem liftedUpto (os : Os) (started : os.Started) (H : Type) (enc : TypeId × Value → H) (F : Stop.Interp) :
    ReturnsInHanded {} Tryz.checked os 8 .any ((Rows.OpenSpec.upto Rows.spanHoldsSpec).preRow enc Tryz.prog Tryz.f8 Rows.spanHoldsUptoRow.domain false Rows.spanHoldsUptoRow.laid) (((Rows.OpenSpec.upto Rows.spanHoldsSpec).at F).post enc Tryz.prog Tryz.f8 false true false false) := by
  obtain ⟨places, hx⟩ := reads os enc
  refine returnsInHanded_of_row (C := Tryz.checked) (s := Rows.OpenSpec.upto Rows.spanHoldsSpec) Tryz.own started (by kernel_rfl) Tryz.func8
    (witness_row_at (enc := enc) (C := Tryz.checked) false (laidWorld os) #[.agg #[.bool false, .slice none 0 0, .int .i64 0, .bool false, .slice none 0 0, .int .i64 0], .agg #[.bool false, .slice none 0 0, .int .i64 0, .bool false, .slice none 0 0, .int .i64 0], .agg #[.int .i64 0, .int .i64 0, .int .i64 0]] rfl (by kernel_rfl) (by kernel_rfl) (by kernel_rfl)
      (OpenSpec.preRow_of_cond 8 hx (by kernel_rfl) (fun k hk => by cases hk; kernel_rfl) (by kernel_rfl) (laid_met os))) ?_
  intro W base args ds gs before hval hW _ hcond _ hL _ _
  exact contract H enc W base args ds gs before hval hW hL (hcond _ rfl)
theorem saidUpto : Rows.SpanHoldsUptoSaid :=
  OpenClaim.holds_of_cond 8 Tryz.f8 rfl rfl rfl rfl rfl rfl rfl ⟨rfl, rfl, rfl, rfl, rfl⟩ rfl rfl rfl rfl rfl (by kernel_rfl) Tryz.func8 (by kernel_rfl)
    (of_decide_eq_true (by kernel_rfl)) (by unfold Func.isWrapper; first | (rw [if_pos (by decide +kernel)]; kernel_rfl) | (rw [if_neg (by decide +kernel)]; exact ⟨rfl, rfl⟩))
    (fun os started H enc _ F => by rw [OpenClaim.pre_eq_preRow]; exact liftedUpto os started H enc F)
theorem plain (f : FuncId) (fn : Func) (hf : Tryz.pinned.checked.prog.funcNamed "girdle/girdlelaw06.SpanHolds" = some f) (hfn : Tryz.pinned.checked.prog.funcs[f]? = some fn) :
    false = Tryz.pinned.checked.prog.looks [] ∧ ∀ (j : Nat) t, fn.params[j]? = some t → Tryz.pinned.checked.prog.wantsStandIn t = false := by
  obtain rfl : f = 8 := Option.some.inj ((show Tryz.prog.funcNamed "girdle/girdlelaw06.SpanHolds" = some 8 by kernel_rfl).symm.trans hf) |>.symm
  obtain rfl : fn = Tryz.f8 := (Option.some.inj (Tryz.func8.symm.trans hfn)).symm
  refine ⟨by kernel_rfl, fun j t ht => ?_⟩
  rw [Tryz.params8] at ht
  have ht := Array.mem_toList_iff.2 (Array.mem_of_getElem? ht)
  have ws29 : Tryz.prog.wantsStandIn 29 = false := by kernel_rfl
  have ws65 : Tryz.prog.wantsStandIn 65 = false := by kernel_rfl
  simp only [List.mem_cons, List.not_mem_nil, or_false] at ht
  rcases ht with rfl | rfl | rfl <;> first | exact ws29 | exact ws65
theorem cardUpto : Rows.SpanHoldsUptoCardSaid :=
  Claim7.holds_tied_plain_at .later [] _ _ _ _ saidUpto (fun _ h => by cases h) (by kernel_rfl) (fun _ h => by cases h) spanHoldsUpto_row_tie rfl ⟨rfl, rfl⟩ (by kernel_rfl) rfl plain (by kernel_rfl)
end Go.Proofs.YtblbpaoidlojdaaGreatDoor.spanHolds

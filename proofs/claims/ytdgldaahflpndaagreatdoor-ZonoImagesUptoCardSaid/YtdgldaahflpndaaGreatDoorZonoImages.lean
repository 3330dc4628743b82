/-
  The law ZonoImages holds of every input whose reading is of bulk at most 1048576 (the second form); the listed table holds what its initialiser lays.
  No condition beyond those that each theorem names.
-/
import Derived.Test.YtdgldaahflpndaaGreatDoorG

/-! CloseZonoImages -/
namespace Go.Proofs.YtdgldaahflpndaaGreatDoor.zonoImages
open Go Go.PM Go.L Go.ChangeShapes Go.WideShapes Go.ChangeAt Go.RowKit
set_option maxRecDepth 100000
set_option linter.unusedVariables false
theorem law : ∀ x : Den (.pair (.pair (.sl (.pair (.pair .bool (.pair (.sl (.int .u32)) .unit)) (.pair (.sl (.int .u32)) .unit))) (.pair (.sl (.sl (.pair (.pair .bool (.pair (.sl (.int .u32)) .unit)) (.pair (.sl (.int .u32)) .unit)))) .unit)) (.pair (.pair (.sl (.pair (.pair .bool (.pair (.sl (.int .u32)) .unit)) (.pair (.sl (.int .u32)) .unit))) (.pair (.sl (.pair (.pair .bool (.pair (.sl (.int .u32)) .unit)) (.pair (.sl (.int .u32)) .unit))) .unit)) (.pair (.int .i64) .unit))), InD 1048576 (.pair (.pair (.sl (.pair (.pair .bool (.pair (.sl (.int .u32)) .unit)) (.pair (.sl (.int .u32)) .unit))) (.pair (.sl (.sl (.pair (.pair .bool (.pair (.sl (.int .u32)) .unit)) (.pair (.sl (.int .u32)) .unit)))) .unit)) (.pair (.pair (.sl (.pair (.pair .bool (.pair (.sl (.int .u32)) .unit)) (.pair (.sl (.int .u32)) .unit))) (.pair (.sl (.pair (.pair .bool (.pair (.sl (.int .u32)) .unit)) (.pair (.sl (.int .u32)) .unit))) .unit)) (.pair (.int .i64) .unit))) x → S.w16_ZonoImages x = some (true, ()) := fun x h => ZonoImages_true (inZ_of h.1) (inRs_of h.2.1.1) (inRs_of h.2.1.2.1)
theorem contract (H : Type) (enc : TypeId × Value → H) (W : World) (base : Nat) (args : Array Value) (ds gs : List (DataW H)) (before : List MemPlace)
    (hval : ∀ (j : Nat) t v, Tryz.f6.params[j]? = some t → args[j]? = some v → Value.okWide Tryz.prog W .any base t v)
    (hW : DataW.Whole enc Tryz.prog Tryz.f6.params.toList Rows.zonoImagesSpec.vars false W args.toList ds gs before) (hL : laidMetH Tryz.prog Rows.zonoImagesUptoRow.laid W) (hb : Rows.uptoSmall H (ds ++ gs) = true) :
    Calls Tryz.prog 6 args W fun e W' => ∃ v, e = .returned v ∧ Rows.zonoImagesSpec.post enc Tryz.prog Tryz.f6 false true false false W args v W' := by
  have pr3 : Tryz.prog.readableRec 3 = true ∧ 3 < Tryz.prog.types.size := ⟨by kernel_rfl, of_decide_eq_true (by kernel_rfl)⟩
  have pr25 : Tryz.prog.readableRec 25 = true ∧ 25 < Tryz.prog.types.size := ⟨by kernel_rfl, of_decide_eq_true (by kernel_rfl)⟩
  have pr81 : Tryz.prog.readableRec 81 = true ∧ 81 < Tryz.prog.types.size := ⟨by kernel_rfl, of_decide_eq_true (by kernel_rfl)⟩
  exact law_contract T_ok bulkLaw fn_w16_ZonoImages (f := 8) (by kernel_rfl) law Tryz.underlying4 (by kernel_rfl) rfl
    (fun ds hds => by rw [Tryz.params6] at hds; match ds, hds with | [d1, d2, d3], _ => rfl) Tryz.laidOut (by rw [Tryz.params6]; intro t ht; simp only [List.mem_cons, List.not_mem_nil, or_false] at ht; rcases ht with rfl | rfl | rfl <;> first | exact pr3 | exact pr25 | exact pr81)
    hval hW (glob rfl hL) (fun d hd => small_all hb d (List.mem_append.2 (.inl hd)))
theorem laid_met (os : Os) : laidMet Tryz.prog Rows.zonoImagesUptoRow.laid ((laidWorld os).forCall (fun _ _ => 0) ⟨#[], #[.agg #[.slice none 0 0, .slice none 0 0], .agg #[.slice none 0 0, .slice none 0 0], .int .i64 0], []⟩).memory :=
  laidMet_of_run' 8 (by kernel_rfl) (by kernel_rfl)
theorem reads (os : Os) {H : Type} (enc : TypeId × Value → H) : ∃ places, DataW.whole enc Tryz.prog ((laidWorld os).forCall (fun _ _ => 0) ⟨#[], #[.agg #[.slice none 0 0, .slice none 0 0], .agg #[.slice none 0 0, .slice none 0 0], .int .i64 0], []⟩).memory Tryz.f6.params.toList Rows.zonoImagesSpec.vars false #[Value.agg #[.slice none 0 0, .slice none 0 0], .agg #[.slice none 0 0, .slice none 0 0], .int .i64 0].toList 8 = some ([.agg [.nil, .nil], .agg [.nil, .nil], .lit (.int .i64 0)], [], places) :=
  ⟨[], by kernel_rfl⟩
theorem liftedUpto (os : Os) (started : os.Started) (H : Type) (enc : TypeId × Value → H) (F : Stop.Interp) :
    ReturnsInHanded {} Tryz.checked os 6 .any ((Rows.OpenSpec.upto Rows.zonoImagesSpec).preRow enc Tryz.prog Tryz.f6 Rows.zonoImagesUptoRow.domain false Rows.zonoImagesUptoRow.laid) (((Rows.OpenSpec.upto Rows.zonoImagesSpec).at F).post enc Tryz.prog Tryz.f6 false true false false) := by
  obtain ⟨places, hx⟩ := reads os enc
  refine returnsInHanded_of_row (C := Tryz.checked) (s := Rows.OpenSpec.upto Rows.zonoImagesSpec) Tryz.own started (by kernel_rfl) Tryz.func6
    (witness_row_at (enc := enc) (C := Tryz.checked) false (laidWorld os) #[.agg #[.slice none 0 0, .slice none 0 0], .agg #[.slice none 0 0, .slice none 0 0], .int .i64 0] rfl (by kernel_rfl) (by kernel_rfl) (by kernel_rfl)
      (OpenSpec.preRow_of_cond 8 hx (by kernel_rfl) (fun k hk => by cases hk; kernel_rfl) (by kernel_rfl) (laid_met os))) ?_
  intro W base args ds gs before hval hW _ hcond _ hL _ _
  exact contract H enc W base args ds gs before hval hW hL (hcond _ rfl)
theorem saidUpto : Rows.ZonoImagesUptoSaid :=
  OpenClaim.holds_of_cond 6 Tryz.f6 rfl rfl rfl rfl rfl rfl rfl ⟨rfl, rfl, rfl, rfl, rfl⟩ rfl rfl rfl rfl rfl (by kernel_rfl) Tryz.func6 (by kernel_rfl)
    (of_decide_eq_true (by kernel_rfl)) (by unfold Func.isWrapper; first | (rw [if_pos (by decide +kernel)]; kernel_rfl) | (rw [if_neg (by decide +kernel)]; exact ⟨rfl, rfl⟩))
    (fun os started H enc _ F => by rw [OpenClaim.pre_eq_preRow]; exact liftedUpto os started H enc F)
theorem plain (f : FuncId) (fn : Func) (hf : Tryz.pinned.checked.prog.funcNamed "girdle/girdlelaw16.ZonoImages" = some f) (hfn : Tryz.pinned.checked.prog.funcs[f]? = some fn) :
    false = Tryz.pinned.checked.prog.looks [] ∧ ∀ (j : Nat) t, fn.params[j]? = some t → Tryz.pinned.checked.prog.wantsStandIn t = false := by
  obtain rfl : f = 6 := Option.some.inj ((show Tryz.prog.funcNamed "girdle/girdlelaw16.ZonoImages" = some 6 by kernel_rfl).symm.trans hf) |>.symm
  obtain rfl : fn = Tryz.f6 := (Option.some.inj (Tryz.func6.symm.trans hfn)).symm
  refine ⟨by kernel_rfl, fun j t ht => ?_⟩
  rw [Tryz.params6] at ht
  have ht := Array.mem_toList_iff.2 (Array.mem_of_getElem? ht)
  have ws3 : Tryz.prog.wantsStandIn 3 = false := by kernel_rfl
  have ws25 : Tryz.prog.wantsStandIn 25 = false := by kernel_rfl
  have ws81 : Tryz.prog.wantsStandIn 81 = false := by kernel_rfl
  simp only [List.mem_cons, List.not_mem_nil, or_false] at ht
  rcases ht with rfl | rfl | rfl <;> first | exact ws3 | exact ws25 | exact ws81
theorem cardUpto : Rows.ZonoImagesUptoCardSaid :=
  Claim7.holds_tied_plain_at .later [] _ _ _ _ saidUpto (fun _ h => by cases h) (by kernel_rfl) (fun _ h => by cases h) zonoImagesUpto_row_tie rfl ⟨rfl, rfl⟩ (by kernel_rfl) rfl plain (by kernel_rfl)
end Go.Proofs.YtdgldaahflpndaaGreatDoor.zonoImages

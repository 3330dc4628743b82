/-
  The law WholePowers holds of every input whose reading is of bulk at most 1048576 (the second form); the listed table holds what its initialiser lays.
  No condition beyond those that each theorem names.
-/
import Derived.Test.YtdadepdcllachaaGreatDoorG

/-! CloseWholePowers -/
namespace Go.Proofs.YtdadepdcllachaaGreatDoor.wholePowers
open Go Go.PM Go.L Go.ChangeShapes Go.WideShapes Go.ChangeAt Go.RowKit
set_option maxRecDepth 100000
set_option linter.unusedVariables false
theorem law : ∀ x : Den (.pair (.sl (.pair (.pair .bool (.pair (.sl (.int .u32)) .unit)) (.pair (.sl (.int .u32)) .unit))) (.pair (.pair (.pair .bool (.pair (.sl (.int .u32)) .unit)) (.pair (.sl (.int .u32)) .unit)) .unit)), InD 1048576 (.pair (.sl (.pair (.pair .bool (.pair (.sl (.int .u32)) .unit)) (.pair (.sl (.int .u32)) .unit))) (.pair (.pair (.pair .bool (.pair (.sl (.int .u32)) .unit)) (.pair (.sl (.int .u32)) .unit)) .unit)) x → S.girdletop_WholePowers x = some (true, ()) := fun x h => WholePowers_true (inRs_of h.1) (inR_of h.2.1)
theorem contract (H : Type) (enc : TypeId × Value → H) (W : World) (base : Nat) (args : Array Value) (ds gs : List (DataW H)) (before : List MemPlace)
    (hval : ∀ (j : Nat) t v, Tryz.f3.params[j]? = some t → args[j]? = some v → Value.okWide Tryz.prog W .any base t v)
    (hW : DataW.Whole enc Tryz.prog Tryz.f3.params.toList Rows.wholePowersSpec.vars false W args.toList ds gs before) (hL : laidMetH Tryz.prog Rows.wholePowersUptoRow.laid W) (hb : Rows.uptoSmall H (ds ++ gs) = true) :
    Calls Tryz.prog 3 args W fun e W' => ∃ v, e = .returned v ∧ Rows.wholePowersSpec.post enc Tryz.prog Tryz.f3 false true false false W args v W' := by
  have pr22 : Tryz.prog.readableRec 22 = true ∧ 22 < Tryz.prog.types.size := ⟨by kernel_rfl, of_decide_eq_true (by kernel_rfl)⟩
  have pr28 : Tryz.prog.readableRec 28 = true ∧ 28 < Tryz.prog.types.size := ⟨by kernel_rfl, of_decide_eq_true (by kernel_rfl)⟩
  exact law_contract T_ok bulkLaw fn_girdletop_WholePowers (f := 8) (by kernel_rfl) law Tryz.underlying4 (by kernel_rfl) rfl
    (fun ds hds => by rw [Tryz.params3] at hds; match ds, hds with | [d1, d2], _ => rfl) Tryz.laidOut (by rw [Tryz.params3]; intro t ht; simp only [List.mem_cons, List.not_mem_nil, or_false] at ht; rcases ht with rfl | rfl <;> first | exact pr22 | exact pr28)
    hval hW (glob rfl hL) (fun d hd => small_all hb d (List.mem_append.2 (.inl hd)))
theorem laid_met (os : Os) : laidMet Tryz.prog Rows.wholePowersUptoRow.laid ((laidWorld os).forCall (fun _ _ => 0) ⟨#[], #[.slice none 0 0, .agg #[.bool false, .slice none 0 0, .slice none 0 0]], []⟩).memory :=
  laidMet_of_run' 8 (by kernel_rfl) (by kernel_rfl)
theorem reads (os : Os) {H : Type} (enc : TypeId × Value → H) : ∃ places, DataW.whole enc Tryz.prog ((laidWorld os).forCall (fun _ _ => 0) ⟨#[], #[.slice none 0 0, .agg #[.bool false, .slice none 0 0, .slice none 0 0]], []⟩).memory Tryz.f3.params.toList Rows.wholePowersSpec.vars false #[Value.slice none 0 0, .agg #[.bool false, .slice none 0 0, .slice none 0 0]].toList 8 = some ([.nil, .agg [.agg [.lit (.bool false), .nil], .nil]], [], places) :=
  ⟨[], by kernel_rfl⟩
theorem liftedUpto (os : Os) (started : os.Started) (H : Type) (enc : TypeId × Value → H) (F : Stop.Interp) :
    ReturnsInHanded {} Tryz.checked os 3 .any ((Rows.OpenSpec.upto Rows.wholePowersSpec).preRow enc Tryz.prog Tryz.f3 Rows.wholePowersUptoRow.domain false Rows.wholePowersUptoRow.laid) (((Rows.OpenSpec.upto Rows.wholePowersSpec).at F).post enc Tryz.prog Tryz.f3 false true false false) := by
  obtain ⟨places, hx⟩ := reads os enc
  refine returnsInHanded_of_row (C := Tryz.checked) (s := Rows.OpenSpec.upto Rows.wholePowersSpec) Tryz.own started (by kernel_rfl) Tryz.func3
    (witness_row_at (enc := enc) (C := Tryz.checked) false (laidWorld os) #[.slice none 0 0, .agg #[.bool false, .slice none 0 0, .slice none 0 0]] rfl (by kernel_rfl) (by kernel_rfl) (by kernel_rfl)
      (OpenSpec.preRow_of_cond 8 hx (by kernel_rfl) (fun k hk => by cases hk; kernel_rfl) (by kernel_rfl) (laid_met os))) ?_
  intro W base args ds gs before hval hW _ hcond _ hL _ _
  exact contract H enc W base args ds gs before hval hW hL (hcond _ rfl)
theorem saidUpto : Rows.WholePowersUptoSaid :=
  OpenClaim.holds_of_cond 3 Tryz.f3 rfl rfl rfl rfl rfl rfl rfl ⟨rfl, rfl, rfl, rfl, rfl⟩ rfl rfl rfl rfl rfl (by kernel_rfl) Tryz.func3 (by kernel_rfl)
    (of_decide_eq_true (by kernel_rfl)) (by unfold Func.isWrapper; first | (rw [if_pos (by decide +kernel)]; kernel_rfl) | (rw [if_neg (by decide +kernel)]; exact ⟨rfl, rfl⟩))
    (fun os started H enc _ F => by rw [OpenClaim.pre_eq_preRow]; exact liftedUpto os started H enc F)
theorem plain (f : FuncId) (fn : Func) (hf : Tryz.pinned.checked.prog.funcNamed "girdle/girdletop.WholePowers" = some f) (hfn : Tryz.pinned.checked.prog.funcs[f]? = some fn) :
    false = Tryz.pinned.checked.prog.looks [] ∧ ∀ (j : Nat) t, fn.params[j]? = some t → Tryz.pinned.checked.prog.wantsStandIn t = false := by
  obtain rfl : f = 3 := Option.some.inj ((show Tryz.prog.funcNamed "girdle/girdletop.WholePowers" = some 3 by kernel_rfl).symm.trans hf) |>.symm
  obtain rfl : fn = Tryz.f3 := (Option.some.inj (Tryz.func3.symm.trans hfn)).symm
  refine ⟨by kernel_rfl, fun j t ht => ?_⟩
  rw [Tryz.params3] at ht
  have ht := Array.mem_toList_iff.2 (Array.mem_of_getElem? ht)
  have ws22 : Tryz.prog.wantsStandIn 22 = false := by kernel_rfl
  have ws28 : Tryz.prog.wantsStandIn 28 = false := by kernel_rfl
  simp only [List.mem_cons, List.not_mem_nil, or_false] at ht
  rcases ht with rfl | rfl <;> first | exact ws22 | exact ws28
theorem cardUpto : Rows.WholePowersUptoCardSaid :=
  Claim7.holds_tied_plain_at .later [] _ _ _ _ saidUpto (fun _ h => by cases h) (by kernel_rfl) (fun _ h => by cases h) wholePowersUpto_row_tie rfl ⟨rfl, rfl⟩ (by kernel_rfl) rfl plain (by kernel_rfl)
end Go.Proofs.YtdadepdcllachaaGreatDoor.wholePowers

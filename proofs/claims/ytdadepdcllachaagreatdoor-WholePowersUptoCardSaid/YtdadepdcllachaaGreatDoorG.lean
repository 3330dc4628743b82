/-
  What the closings of the laws share.
  No condition beyond those that each theorem names.
-/
import Derived.Test.YtdadepdcllachaaGreatDoorF
import Derived.Test.YtdadepdcllachaaGreatDoorCards
import Derived.Test.YtdadepdcllachaaGreatDoorTie
import Derived.WalkKit
import Derived.ProofKit
import Derived.OpenShut
import Derived.Deep.DeepHandedRow
import Derived.Lib.LaidTab

/-! LHeadZ9 -/
namespace Go.Proofs.YtdadepdcllachaaGreatDoor
open Go Go.PM Go.L Go.ChangeShapes Go.WideShapes Go.ChangeAt Go.RowKit
set_option maxRecDepth 100000
set_option linter.unusedSimpArgs false
set_option linter.unusedVariables false

theorem Tryz.own : ownKnob Tryz.prog.godebug = none := by kernel_rfl
theorem Tryz.laidOut : laidOutB Tryz.prog = true := by kernel_rfl
theorem gTab : Tryz.prog.globalNamed "math/bits.deBruijn32tab" = some 0 := by kernel_rfl
theorem gTabType : (Tryz.prog.globals[0]?).map (·.type) = some 176 := by kernel_rfl
theorem cells176 : Tryz.prog.cellsOf 176 = 32 := by kernel_rfl
theorem cells5 : Tryz.prog.cellsOf 5 = 1 := by kernel_rfl


theorem one_le {H : Type} (d : DataW H) : 1 ≤ Rows.uptoBulk d := by
  cases d with
  | lit l => cases l <;> simp [Rows.uptoBulk]
  | nil => simp [Rows.uptoBulk]
  | ptr d => simp [Rows.uptoBulk]
  | slice elems spare => simp [Rows.uptoBulk]
  | agg parts => simp [Rows.uptoBulk]
  | iface t d => simp [Rows.uptoBulk]
  | map entries => simp [Rows.uptoBulk]
  | held h => simp [Rows.uptoBulk]
theorem part_le {H : Type} {d : DataW H} {l : List (DataW H)} (h : d ∈ l) : Rows.uptoBulk d ≤ Rows.uptoBulkAll l := by
  induction l with
  | nil => cases h
  | cons x l ih =>
    simp only [Rows.uptoBulkAll]
    rcases List.mem_cons.1 h with rfl | h
    · omega
    · have := ih h; omega
theorem length_le {H : Type} (l : List (DataW H)) : l.length ≤ Rows.uptoBulkAll l := by
  induction l with
  | nil => simp [Rows.uptoBulkAll]
  | cons x r ih => have := one_le x; simp only [Rows.uptoBulkAll, List.length_cons]; omega
theorem bulkLaw {H : Type} : BulkLaw (H := H) Rows.uptoBulk where
  str s := by simp only [Rows.uptoBulk]; omega
  len a b := by have := length_le a; simp only [Rows.uptoBulk]; omega
  elem a b x h := by have := part_le h; simp only [Rows.uptoBulk]; omega
  part l x h := by have := part_le h; simp only [Rows.uptoBulk]; omega

theorem table {W : World} {laid : List (String × DataW Unit)} (hlaid : laid = [("math/bits.deBruijn32tab", Rows.laid_math_bits_deBruijn32tab), ("unicode/utf8.acceptRanges", Rows.laid_unicode_utf8_acceptRanges), ("unicode/utf8.first", Rows.laid_unicode_utf8_first)]) (h : laidMetH Tryz.prog laid W) : Lib.TabIs Tryz.prog W "math/bits.deBruijn32tab" .u8 bruijn := by
  subst hlaid
  exact Lib.tabIs_of_head (rest := [("unicode/utf8.acceptRanges", Rows.laid_unicode_utf8_acceptRanges), ("unicode/utf8.first", Rows.laid_unicode_utf8_first)]) gTab gTabType Tryz.underlying176 Tryz.underlying5 cells5 cells176 h
theorem tab_rep {W : World} {S : Nat → Prop} : ∀ l : List Int, RepD Tryz.prog (tabTy l.length) W S (tabD l) (l.map (Value.int .u8))
  | [] => rfl
  | x :: l => ⟨[.int .u8 x], l.map (Value.int .u8), rfl, rfl, tab_rep l⟩
theorem glob {W : World} {laid : List (String × DataW Unit)} (hlaid : laid = [("math/bits.deBruijn32tab", Rows.laid_math_bits_deBruijn32tab), ("unicode/utf8.acceptRanges", Rows.laid_unicode_utf8_acceptRanges), ("unicode/utf8.first", Rows.laid_unicode_utf8_first)]) (h : laidMetH Tryz.prog laid W) : GlobOK Tryz.prog G W (fun b => b < W.heap.size) := by
  have ht := table hlaid h
  intro g r hg
  unfold L.G at hg
  cases hb : Nat.beq g 0 with
  | false => rw [hb] at hg; cases hg
  | true =>
    rw [hb] at hg
    cases hg
    rw [Nat.eq_of_beq_eq_true hb]
    have hc : ∀ i, i < bruijn.length → W.cell? ⟨0, i, none⟩ = some (.int .u8 (bruijn.getD i 0)) := fun i hi => ht.cell gTab i hi
    refine ⟨⟨0, 0, none⟩, bruijn.map (Value.int .u8), rfl, cell_block (hc 0 (by decide)), tab_rep bruijn, fun j v hj => ?_⟩
    have hj' : j < bruijn.length := by
      rcases Nat.lt_or_ge j bruijn.length with h | h
      · exact h
      · rw [List.getElem?_eq_none (by simpa using h)] at hj; cases hj
    have e : (⟨0, 0, none⟩ : Addr).add j = ⟨0, j, none⟩ := by unfold Addr.add; split <;> simp_all
    rw [e, hc j hj', ← hj]
    simp [List.getD, List.getElem?_map, List.getElem?_eq_getElem hj']


def firstL : List Int := [240, 240, 240, 240, 240, 240, 240, 240, 240, 240, 240, 240, 240, 240, 240, 240, 240, 240, 240, 240, 240, 240, 240, 240, 240, 240, 240, 240, 240, 240, 240, 240, 240, 240, 240, 240, 240, 240, 240, 240, 240, 240, 240, 240, 240, 240, 240, 240, 240, 240, 240, 240, 240, 240, 240, 240, 240, 240, 240, 240, 240, 240, 240, 240, 240, 240, 240, 240, 240, 240, 240, 240, 240, 240, 240, 240, 240, 240, 240, 240, 240, 240, 240, 240, 240, 240, 240, 240, 240, 240, 240, 240, 240, 240, 240, 240, 240, 240, 240, 240, 240, 240, 240, 240, 240, 240, 240, 240, 240, 240, 240, 240, 240, 240, 240, 240, 240, 240, 240, 240, 240, 240, 240, 240, 240, 240, 240, 240, 241, 241, 241, 241, 241, 241, 241, 241, 241, 241, 241, 241, 241, 241, 241, 241, 241, 241, 241, 241, 241, 241, 241, 241, 241, 241, 241, 241, 241, 241, 241, 241, 241, 241, 241, 241, 241, 241, 241, 241, 241, 241, 241, 241, 241, 241, 241, 241, 241, 241, 241, 241, 241, 241, 241, 241, 241, 241, 241, 241, 241, 241, 241, 241, 241, 241, 2, 2, 2, 2, 2, 2, 2, 2, 2, 2, 2, 2, 2, 2, 2, 2, 2, 2, 2, 2, 2, 2, 2, 2, 2, 2, 2, 2, 2, 2, 19, 3, 3, 3, 3, 3, 3, 3, 3, 3, 3, 3, 3, 35, 3, 3, 52, 4, 4, 4, 68, 241, 241, 241, 241, 241, 241, 241, 241, 241, 241, 241]
def rangesL : List Int := [128, 191, 160, 191, 128, 159, 144, 191, 128, 143, 0, 0, 0, 0, 0, 0, 0, 0, 0, 0, 0, 0, 0, 0, 0, 0, 0, 0, 0, 0, 0, 0]
/-- A WORLD FOR THE WITNESS: the settled one, the table holding what its initialiser lays. -/
noncomputable def laidWorld (os : Os) : World :=
  { World.holding Tryz.prog os ⟨#[], #[], []⟩ with heap := ((((World.holding Tryz.prog os ⟨#[], #[], []⟩).heap.modify 0 (fun o => match o with | .cells _ t frozen => .cells (bruijn.map (Value.int .u8)).toArray t frozen | o => o)).modify 1 (fun o => match o with | .cells _ t frozen => .cells (firstL.map (Value.int .u8)).toArray t frozen | o => o)).modify 2 (fun o => match o with | .cells _ t frozen => .cells (rangesL.map (Value.int .u8)).toArray t frozen | o => o)) }
theorem small_all {H : Type} {ds : List (DataW H)} (h : Rows.uptoSmall H ds = true) : ∀ d ∈ ds, Rows.uptoBulk d ≤ 1048576 := by
  intro d hd
  have := of_decide_eq_true h
  have := part_le hd
  omega
theorem u32_min : IntKind.u32.min = 0 := by decide
theorem u32_max : IntKind.u32.max = 4294967295 := by decide
theorem i64_min : IntKind.i64.min = -9223372036854775808 := by decide
theorem i64_max : IntKind.i64.max = 9223372036854775807 := by decide
theorem u64_min : IntKind.u64.min = 0 := by decide
theorem u64_max : IntKind.u64.max = 18446744073709551615 := by decide
theorem has_u32 {x : Int} (h : IntKind.u32.has x = true) : 0 ≤ x ∧ x < 4294967296 := by
  have h : IntKind.u32.min ≤ x ∧ x ≤ IntKind.u32.max := by simpa [IntKind.has] using h
  rw [u32_min, u32_max] at h; omega
theorem i64_of {x : Int} (h : IntKind.i64.has x = true) : -9223372036854775808 ≤ x ∧ x < 9223372036854775808 := by
  have h : IntKind.i64.min ≤ x ∧ x ≤ IntKind.i64.max := by simpa [IntKind.has] using h
  rw [i64_min, i64_max] at h; omega
theorem u64_of {x : Int} (h : IntKind.u64.has x = true) : 0 ≤ x ∧ x < 18446744073709551616 := by
  have h : IntKind.u64.min ≤ x ∧ x ≤ IntKind.u64.max := by simpa [IntKind.has] using h
  rw [u64_min, u64_max] at h; omega
theorem inW_of {a : List Int} (h : InD 1048576 (.sl (.int .u32)) a) : inW a :=
  ⟨fun x hx => has_u32 (h.2 x hx), Nat.le_trans h.1 (by decide)⟩
theorem inR_of {x : ((Bool × List Int × Unit) × List Int × Unit)} (h : InD 1048576 (.pair (.pair .bool (.pair (.sl (.int .u32)) .unit)) (.pair (.sl (.int .u32)) .unit)) x) : inR x := ⟨inW_of h.1.2.1, inW_of h.2.1⟩
theorem inRs_of {l : List ((Bool × List Int × Unit) × List Int × Unit)} (h : InD 1048576 (.sl (.pair (.pair .bool (.pair (.sl (.int .u32)) .unit)) (.pair (.sl (.int .u32)) .unit))) l) : ∀ d ∈ l, inR d := fun d hd => inR_of (h.2 d hd)
end Go.Proofs.YtdadepdcllachaaGreatDoor

/-
  What the closings of the laws share.
  No condition beyond those that each theorem names.
-/
import Derived.Test.YtdadepdcllachaaDoorF
import Derived.Test.YtdadepdcllachaaDoorCards
import Derived.Test.YtdadepdcllachaaDoorTie
import Derived.WalkKit
import Derived.ProofKit
import Derived.OpenShut
import Derived.Deep.DeepHandedRow
import Derived.Deep.DeepWitnessRowRef
import Derived.Lib.LaidTab

/-! LHead9 -/
namespace Go.Proofs.YtdadepdcllachaaDoor
open Go Go.PM Go.L Go.ChangeShapes Go.WideShapes Go.ChangeAt Go.RowKit
set_option maxRecDepth 100000
set_option linter.unusedSimpArgs false
set_option linter.unusedVariables false

theorem Tryd.own : ownKnob Tryd.prog.godebug = none := by kernel_rfl
theorem Tryd.laidOut : laidOutB Tryd.prog = true := by kernel_rfl


theorem one_le {H : Type} (d : DataW H) : 1 ≤ Rows.uptoBulk d := by
  cases d with
  | lit l => cases l <;> simp [Rows.uptoBulk]
  | nil => simp [Rows.uptoBulk]
  | ptr d => simp [Rows.uptoBulk]
  | slice elems spare => simp [Rows.uptoBulk]
  | agg parts => simp [Rows.uptoBulk]
  | iface t d => simp [Rows.uptoBulk]
  | map entries => simp [Rows.uptoBulk]
  | held h => simp [Rows.uptoBulk]
theorem part_le {H : Type} {d : DataW H} {l : List (DataW H)} (h : d ∈ l) : Rows.uptoBulk d ≤ Rows.uptoBulkAll l := by
  induction l with
  | nil => cases h
  | cons x l ih =>
    simp only [Rows.uptoBulkAll]
    rcases List.mem_cons.1 h with rfl | h
    · omega
    · have := ih h; omega
theorem length_le {H : Type} (l : List (DataW H)) : l.length ≤ Rows.uptoBulkAll l := by
  induction l with
  | nil => simp [Rows.uptoBulkAll]
  | cons x r ih => have := one_le x; simp only [Rows.uptoBulkAll, List.length_cons]; omega
theorem bulkLaw {H : Type} : BulkLaw (H := H) Rows.uptoBulk where
  str s := by simp only [Rows.uptoBulk]; omega
  len a b := by have := length_le a; simp only [Rows.uptoBulk]; omega
  elem a b x h := by have := part_le h; simp only [Rows.uptoBulk]; omega
  part l x h := by have := part_le h; simp only [Rows.uptoBulk]; omega

theorem glob {W : World} {laid : List (String × DataW Unit)} (hlaid : laid = laid) (h : laidMetH Tryd.prog laid W) : GlobOK Tryd.prog G W (fun b => b < W.heap.size) := by
  intro g r hg
  cases hg

def spaceL : List Int := [0, 0, 0, 0, 0, 0, 0, 0, 0, 1, 1, 1, 1, 1, 0, 0, 0, 0, 0, 0, 0, 0, 0, 0, 0, 0, 0, 0, 0, 0, 0, 0, 1, 0, 0, 0, 0, 0, 0, 0, 0, 0, 0, 0, 0, 0, 0, 0, 0, 0, 0, 0, 0, 0, 0, 0, 0, 0, 0, 0, 0, 0, 0, 0, 0, 0, 0, 0, 0, 0, 0, 0, 0, 0, 0, 0, 0, 0, 0, 0, 0, 0, 0, 0, 0, 0, 0, 0, 0, 0, 0, 0, 0, 0, 0, 0, 0, 0, 0, 0, 0, 0, 0, 0, 0, 0, 0, 0, 0, 0, 0, 0, 0, 0, 0, 0, 0, 0, 0, 0, 0, 0, 0, 0, 0, 0, 0, 0, 0, 0, 0, 0, 0, 0, 0, 0, 0, 0, 0, 0, 0, 0, 0, 0, 0, 0, 0, 0, 0, 0, 0, 0, 0, 0, 0, 0, 0, 0, 0, 0, 0, 0, 0, 0, 0, 0, 0, 0, 0, 0, 0, 0, 0, 0, 0, 0, 0, 0, 0, 0, 0, 0, 0, 0, 0, 0, 0, 0, 0, 0, 0, 0, 0, 0, 0, 0, 0, 0, 0, 0, 0, 0, 0, 0, 0, 0, 0, 0, 0, 0, 0, 0, 0, 0, 0, 0, 0, 0, 0, 0, 0, 0, 0, 0, 0, 0, 0, 0, 0, 0, 0, 0, 0, 0, 0, 0, 0, 0, 0, 0, 0, 0, 0, 0, 0, 0, 0, 0, 0, 0, 0, 0, 0, 0, 0, 0]
def firstL : List Int := [240, 240, 240, 240, 240, 240, 240, 240, 240, 240, 240, 240, 240, 240, 240, 240, 240, 240, 240, 240, 240, 240, 240, 240, 240, 240, 240, 240, 240, 240, 240, 240, 240, 240, 240, 240, 240, 240, 240, 240, 240, 240, 240, 240, 240, 240, 240, 240, 240, 240, 240, 240, 240, 240, 240, 240, 240, 240, 240, 240, 240, 240, 240, 240, 240, 240, 240, 240, 240, 240, 240, 240, 240, 240, 240, 240, 240, 240, 240, 240, 240, 240, 240, 240, 240, 240, 240, 240, 240, 240, 240, 240, 240, 240, 240, 240, 240, 240, 240, 240, 240, 240, 240, 240, 240, 240, 240, 240, 240, 240, 240, 240, 240, 240, 240, 240, 240, 240, 240, 240, 240, 240, 240, 240, 240, 240, 240, 240, 241, 241, 241, 241, 241, 241, 241, 241, 241, 241, 241, 241, 241, 241, 241, 241, 241, 241, 241, 241, 241, 241, 241, 241, 241, 241, 241, 241, 241, 241, 241, 241, 241, 241, 241, 241, 241, 241, 241, 241, 241, 241, 241, 241, 241, 241, 241, 241, 241, 241, 241, 241, 241, 241, 241, 241, 241, 241, 241, 241, 241, 241, 241, 241, 241, 241, 2, 2, 2, 2, 2, 2, 2, 2, 2, 2, 2, 2, 2, 2, 2, 2, 2, 2, 2, 2, 2, 2, 2, 2, 2, 2, 2, 2, 2, 2, 19, 3, 3, 3, 3, 3, 3, 3, 3, 3, 3, 3, 3, 35, 3, 3, 52, 4, 4, 4, 68, 241, 241, 241, 241, 241, 241, 241, 241, 241, 241, 241]
def rangesL : List Int := [128, 191, 160, 191, 128, 159, 144, 191, 128, 143, 0, 0, 0, 0, 0, 0, 0, 0, 0, 0, 0, 0, 0, 0, 0, 0, 0, 0, 0, 0, 0, 0]
def whiteL : List Int := [9, 13, 1, 32, 133, 101, 160, 5760, 5600, 8192, 8202, 1, 8232, 8233, 1, 8239, 8287, 48, 12288, 12288, 1]
/-- A WORLD FOR THE WITNESS: the settled one, the table holding what its initialiser lays. -/
noncomputable def laidWorld (os : Os) : World :=
  { World.holding Tryd.prog os ⟨#[], #[], []⟩ with heap := (((((((World.holding Tryd.prog os ⟨#[], #[], []⟩).heap.modify 0 (fun o => match o with | .cells _ t frozen => .cells (spaceL.map (Value.int .u8)).toArray t frozen | o => o)).modify 3 (fun o => match o with | .cells _ t frozen => .cells (firstL.map (Value.int .u8)).toArray t frozen | o => o)).modify 4 (fun o => match o with | .cells _ t frozen => .cells (rangesL.map (Value.int .u8)).toArray t frozen | o => o)).modify 1 (fun o => match o with | .cells _ t frozen => .cells #[.pointer (some ⟨(World.holding Tryd.prog os ⟨#[], #[], []⟩).heap.size, 0, none⟩)] t frozen | o => o)).push (.cells #[.slice (some ⟨(World.holding Tryd.prog os ⟨#[], #[], []⟩).heap.size + 1, 0, none⟩) 7 7, .slice none 0 0, .int .i64 2] 135 (0, 0))).push (.cells (whiteL.map (Value.int .u16)).toArray 138 (0, 0))) }
theorem small_all {H : Type} {ds : List (DataW H)} (h : Rows.uptoSmall H ds = true) : ∀ d ∈ ds, Rows.uptoBulk d ≤ 1048576 := by
  intro d hd
  have := of_decide_eq_true h
  have := part_le hd
  omega
theorem u32_min : IntKind.u32.min = 0 := by decide
theorem u32_max : IntKind.u32.max = 4294967295 := by decide
theorem i64_min : IntKind.i64.min = -9223372036854775808 := by decide
theorem i64_max : IntKind.i64.max = 9223372036854775807 := by decide
theorem u64_min : IntKind.u64.min = 0 := by decide
theorem u64_max : IntKind.u64.max = 18446744073709551615 := by decide
theorem has_u32 {x : Int} (h : IntKind.u32.has x = true) : 0 ≤ x ∧ x < 4294967296 := by
  have h : IntKind.u32.min ≤ x ∧ x ≤ IntKind.u32.max := by simpa [IntKind.has] using h
  rw [u32_min, u32_max] at h; omega
theorem i64_of {x : Int} (h : IntKind.i64.has x = true) : -9223372036854775808 ≤ x ∧ x < 9223372036854775808 := by
  have h : IntKind.i64.min ≤ x ∧ x ≤ IntKind.i64.max := by simpa [IntKind.has] using h
  rw [i64_min, i64_max] at h; omega
theorem u64_of {x : Int} (h : IntKind.u64.has x = true) : 0 ≤ x ∧ x < 18446744073709551616 := by
  have h : IntKind.u64.min ≤ x ∧ x ≤ IntKind.u64.max := by simpa [IntKind.has] using h
  rw [u64_min, u64_max] at h; omega
theorem inW_of {a : List Int} (h : InD 1048576 (.sl (.int .u32)) a) : inW a :=
  ⟨fun x hx => has_u32 (h.2 x hx), Nat.le_trans h.1 (by decide)⟩
theorem inR_of {x : ((Bool × List Int × Unit) × List Int × Unit)} (h : InD 1048576 (.pair (.pair .bool (.pair (.sl (.int .u32)) .unit)) (.pair (.sl (.int .u32)) .unit)) x) : inR x := ⟨inW_of h.1.2.1, inW_of h.2.1⟩
theorem inRs_of {l : List ((Bool × List Int × Unit) × List Int × Unit)} (h : InD 1048576 (.sl (.pair (.pair .bool (.pair (.sl (.int .u32)) .unit)) (.pair (.sl (.int .u32)) .unit))) l) : ∀ d ∈ l, inR d := fun d hd => inR_of (h.2 d hd)
theorem inZ_of {z : List ((Bool × List Int × Unit) × List Int × Unit) × List (List ((Bool × List Int × Unit) × List Int × Unit)) × Unit} (h : InD 1048576 (.pair (.sl (.pair (.pair .bool (.pair (.sl (.int .u32)) .unit)) (.pair (.sl (.int .u32)) .unit))) (.pair (.sl (.sl (.pair (.pair .bool (.pair (.sl (.int .u32)) .unit)) (.pair (.sl (.int .u32)) .unit)))) .unit)) z) : inZ z := ⟨inRs_of h.1, fun l hl => inRs_of (h.2.1.2 l hl)⟩
end Go.Proofs.YtdadepdcllachaaDoor

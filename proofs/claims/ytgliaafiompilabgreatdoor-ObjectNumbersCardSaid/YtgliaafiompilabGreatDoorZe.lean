/- A start at which the row's conditions are met: the closed facts, each by the kernel. -/
import Derived.Test.YtgliaafiompilabGreatDoorRows
import Derived.ProofKit
import Derived.OpenShut
import Derived.MakeChecks
import Derived.LaidMore
import Derived.Lay
import Derived.Stop.Joined
namespace Go.Proofs.YtgliaafiompilabGreatDoor
open Go
set_option maxRecDepth 100000

theorem wf1 (os : Os) : (World.holding Tryz.prog os ⟨#[], #[], []⟩).layFits Tryz.prog Rows.objectNumbersRow.laid [] = true := by kernel_rfl
theorem wf2 (os : Os) : (World.holding Tryz.prog os ⟨#[], #[], []⟩).layIfaces Tryz.prog Rows.objectNumbersRow.laid (World.laidAll Tryz.prog os Rows.objectNumbersRow.laid) = true := by kernel_rfl
theorem wf3 : ((Rows.objectNumbersRow.laid : List (String × DataW Unit)).all fun x => x.2.handleName?.isNone) = true := by kernel_rfl
theorem wf4 (os : Os) : ((World.laidAll Tryz.prog os Rows.objectNumbersRow.laid).forCall (fun _ _ => 0) ⟨#[], #[.int .u64 0, .int .u64 0, .int .u64 0, .string ⟨#[]⟩, .int .i64 0], []⟩).variablesZipB Tryz.prog = true := by kernel_rfl
theorem wf5 (os : Os) : (((World.laidAll Tryz.prog os Rows.objectNumbersRow.laid).forCall (fun _ _ => 0) ⟨#[], #[.int .u64 0, .int .u64 0, .int .u64 0, .string ⟨#[]⟩, .int .i64 0], []⟩).heap.toList.drop Tryz.prog.globals.size).take ((begin Tryz.prog (fun _ _ => 0) default).world.heap.size - Tryz.prog.globals.size) = (begin Tryz.prog (fun _ _ => 0) default).world.heap.toList.drop Tryz.prog.globals.size := by kernel_rfl
theorem wf6 (os : Os) : Input.okWideB Tryz.prog ((World.laidAll Tryz.prog os Rows.objectNumbersRow.laid).forCall (fun _ _ => 0) ⟨#[], #[.int .u64 0, .int .u64 0, .int .u64 0, .string ⟨#[]⟩, .int .i64 0], []⟩) 3 ⟨#[], #[.int .u64 0, .int .u64 0, .int .u64 0, .string ⟨#[]⟩, .int .i64 0], []⟩ = true := by kernel_rfl
theorem wf7 (os : Os) (H : Type) (enc : TypeId × Value → H) : Rows.objectNumbersSpec.preB enc Tryz.prog Tryz.f3 Rows.objectNumbersRow.domain false ((World.laidAll Tryz.prog os Rows.objectNumbersRow.laid).forCall (fun _ _ => 0) ⟨#[], #[.int .u64 0, .int .u64 0, .int .u64 0, .string ⟨#[]⟩, .int .i64 0], []⟩).memory #[.int .u64 0, .int .u64 0, .int .u64 0, .string ⟨#[]⟩, .int .i64 0] 8 = true := by kernel_rfl
theorem wf8 (os : Os) (H : Type) (enc : TypeId × Value → H) : Rows.objectNumbersSpec.sizedB enc Tryz.prog Tryz.f3 false ((World.laidAll Tryz.prog os Rows.objectNumbersRow.laid).forCall (fun _ _ => 0) ⟨#[], #[.int .u64 0, .int .u64 0, .int .u64 0, .string ⟨#[]⟩, .int .i64 0], []⟩).memory #[.int .u64 0, .int .u64 0, .int .u64 0, .string ⟨#[]⟩, .int .i64 0] 8 = true := by kernel_rfl
theorem wf9 (os : Os) : laidMetH Tryz.prog Rows.objectNumbersRow.laid ((World.laidAll Tryz.prog os Rows.objectNumbersRow.laid).forCall (fun _ _ => 0) ⟨#[], #[.int .u64 0, .int .u64 0, .int .u64 0, .string ⟨#[]⟩, .int .i64 0], []⟩).memory := by
  rw [MakeChecks.laidMetH_plain _ _ _ wf3]
  exact laidMet_laidAll _ (wf1 os) (wf2 os)
theorem wf10 (os : Os) : ((World.laidAll Tryz.prog os Rows.objectNumbersRow.laid).forCall (fun _ _ => 0) ⟨#[], #[.int .u64 0, .int .u64 0, .int .u64 0, .string ⟨#[]⟩, .int .i64 0], []⟩).Shaped Tryz.prog := World.shaped_of_ZipB (wf4 os) (wf5 os)

end Go.Proofs.YtgliaafiompilabGreatDoor

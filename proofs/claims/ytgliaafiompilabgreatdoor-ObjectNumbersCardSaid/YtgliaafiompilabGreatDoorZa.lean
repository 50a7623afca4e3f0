/- The row's closed facts, the first half, each by the kernel. -/
import Derived.Test.YtgliaafiompilabGreatDoorRows
import Derived.JoinedOf
import Derived.ProofKit
namespace Go.Proofs.YtgliaafiompilabGreatDoor
open Go
set_option maxRecDepth 100000

theorem jf1 : (Rows.objectNumbersRow.wf (OpenSpec.ofChange Rows.objectNumbersSpec)) = true := by kernel_rfl
theorem jf2 : (laidOutB Tryz.prog) = true := by kernel_rfl
theorem jf3 : (mapsRowed Tryz.prog) = true := by kernel_rfl
theorem jf4 : (Tryz.f3.params.all (Tryz.prog.readableRec ·)) = true := by kernel_rfl
theorem jf5 : (namedTie Tryz.prog Rows.objectNumbersRow.named Rows.objectNumbersSpec.vars) = true := by kernel_rfl
theorem jf6 : ((Rows.objectNumbersRow.stops == [])) = true := by kernel_rfl
theorem jf7 : ((Tryz.prog.stops == [])) = true := by kernel_rfl
theorem jf8 : ((Rows.objectNumbersRow.knobs == [])) = true := by kernel_rfl
theorem jf9 : ((Tryz.prog.stopKnobs == [])) = true := by kernel_rfl
theorem jf10 : ((Rows.objectNumbersRow.inPlace == Tryz.prog.inPlace 3)) = true := by kernel_rfl
theorem jf11 : ((Rows.objectNumbersRow.unfollowed == Tryz.prog.unfollowed 3)) = true := by kernel_rfl
theorem jf12 : ((Rows.objectNumbersRow.recurses == Tryz.prog.recurses 3)) = true := by kernel_rfl
theorem jf13 : ((Rows.objectNumbersRow.named == Tryz.prog.varsNamed 3)) = true := by kernel_rfl
theorem jf14 : ((Rows.objectNumbersRow.maps == (Tryz.f3.params.toList ++ Rows.objectNumbersSpec.plain.varTypes Tryz.prog).any (Tryz.prog.mapsRec ·))) = true := by kernel_rfl
theorem jf15 : ((Rows.objectNumbersRow.ifaces == (Tryz.f3.params.toList ++ Rows.objectNumbersSpec.plain.varTypes Tryz.prog).any (Tryz.prog.ifacesRec ·))) = true := by kernel_rfl
theorem jf16 : ((Rows.objectNumbersRow.mapsOut == Tryz.prog.mapsAmong Tryz.f3.resultTypes.toList)) = true := by kernel_rfl

end Go.Proofs.YtgliaafiompilabGreatDoor

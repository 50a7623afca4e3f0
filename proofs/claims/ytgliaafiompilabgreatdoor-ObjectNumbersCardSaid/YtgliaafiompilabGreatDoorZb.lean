/- The row's closed facts, the second half, each by the kernel. -/
import Derived.Test.YtgliaafiompilabGreatDoorRows
import Derived.JoinedOf
import Derived.ProofKit
namespace Go.Proofs.YtgliaafiompilabGreatDoor
open Go
set_option maxRecDepth 100000

theorem jf17 : ((Rows.objectNumbersRow.loops == (Tryz.f3.params.toList ++ Rows.objectNumbersSpec.plain.varTypes Tryz.prog).any (Tryz.prog.loopsFrom ·))) = true := by kernel_rfl
theorem jf18 : ((Rows.objectNumbersRow.wideKeys == (Tryz.f3.params.toList ++ Rows.objectNumbersSpec.plain.varTypes Tryz.prog ++ Tryz.f3.resultTypes.toList).any (Tryz.prog.wideKeysFrom ·))) = true := by kernel_rfl
theorem jf19 : (Rows.objectNumbersSpec.vars.all (Tryz.prog.varReadable ·)) = true := by kernel_rfl
theorem jf20 : (Tryz.f3.resultTypes.all (fun t => Tryz.prog.readableRec t && decide (t < Tryz.prog.types.size))) = true := by kernel_rfl
theorem jf21 : ((Rows.objectNumbersRow.ifacesOut == Tryz.f3.resultTypes.toList.any (Tryz.prog.ifacesRec ·))) = true := by kernel_rfl
theorem jf22 : ((Rows.objectNumbersRow.loopsOut == Tryz.f3.resultTypes.toList.any (Tryz.prog.loopsFrom ·))) = true := by kernel_rfl
theorem jf23 : ((Rows.objectNumbersRow.plainKeys == Tryz.prog.plainKeys)) = true := by kernel_rfl
theorem jf24 : (Rows.objectNumbersRow.shortTexts.isNone) = true := by kernel_rfl
theorem jf25 : (Tryz.prog.stopsHeard) = true := by kernel_rfl
theorem jf26 : (Tryz.prog.mayEnter) = true := by kernel_rfl
theorem jf27 : ((Rows.objectNumbersRow.lifted == Tryz.prog.liftsFinal)) = true := by kernel_rfl
theorem jf28 : ((Tryz.prog.make == some Rows.objectNumbersRow.make)) = true := by kernel_rfl
theorem jf29 : ((Rows.objectNumbersRow.kinds == (if Rows.objectNumbersRow.domain.isEmpty then [] else Tryz.f3.params.toList.map fun t => match Tryz.prog.underlying t with | some (.int k) => some k | _ => none))) = true := by kernel_rfl
theorem jf30 : ((Rows.objectNumbersRow.pinned == Rows.objectNumbersRow.pinnedBy)) = true := by kernel_rfl
theorem jf31 : ((Rows.objectNumbersRow.veiled == (Tryz.f3.params.toList ++ Rows.objectNumbersSpec.plain.varTypes Tryz.prog ++ Tryz.f3.resultTypes.toList).any (Tryz.prog.veiledRec ·))) = true := by kernel_rfl
theorem jf32 : (Rows.objectNumbersRow.veiledFits Tryz.prog Tryz.f3.params.toList (Tryz.f3.params.toList ++ Rows.objectNumbersSpec.plain.varTypes Tryz.prog ++ Tryz.f3.resultTypes.toList)) = true := by kernel_rfl

end Go.Proofs.YtgliaafiompilabGreatDoor

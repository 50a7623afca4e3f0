/- ObjectNumbers: for every release, line and digest, every name and every k the statement returns true, and each argument reads afterwards as it read before. The card ties the listed variables to the program's text. No condition beyond the card's own. -/
import Derived.Test.YtgliaafiompilabGreatDoorZc
import Derived.Test.YtgliaafiompilabGreatDoorZd
import Derived.Test.YtgliaafiompilabGreatDoorCards
import Derived.Test.YtgliaafiompilabGreatDoorTie
import Derived.SevenTiedAt
namespace Go.Proofs.YtgliaafiompilabGreatDoor
open Go

theorem fnamed : Tryz.prog.funcNamed Rows.objectNumbersRow.func = some 3 := by kernel_rfl

theorem holds : Rows.ObjectNumbersSaid :=
  OpenClaim.holds_of_wide 3 Tryz.f3 rfl rfl rfl rfl rfl rfl rfl ⟨rfl, rfl, rfl, rfl, rfl⟩ rfl rfl rfl rfl rfl fnamed Tryz.func3 closed
    (of_decide_eq_true (by as_aux_lemma => kernel_rfl)) (by unfold Func.isWrapper; first | (rw [if_pos (by decide +kernel)]; kernel_rfl) | (rw [if_neg (by decide +kernel)]; exact ⟨rfl, rfl⟩))
    (fun os started H enc _ => lifted os started H enc)

theorem object_numbers_holds : Rows.ObjectNumbersCardSaid :=
  Claim7.holds_tied_plain_at .later [] [.data, .data, .data, .data, .sentinel, .sentinel, .pinned] true (true, "f09e971645ec60e969a88859e4ccf16d7e604fa6336ed880d907e4dad58afc9c") true holds (fun _ h => by cases h) (by as_aux_lemma => kernel_rfl) (fun _ h => by cases h) objectNumbers_row_tie rfl ⟨rfl, rfl⟩ (by as_aux_lemma => kernel_rfl) rfl
    (fun f fn hf hfn => by
      obtain rfl : f = 3 := Option.some.inj (fnamed.symm.trans hf) |>.symm
      obtain rfl : fn = Tryz.f3 := (Option.some.inj (Tryz.func3.symm.trans hfn)).symm
      exact ⟨by as_aux_lemma => kernel_rfl, fun j t ht => by
        rw [Tryz.params3] at ht
        have hm : t ∈ [22, 22, 22, 9, 3] := by simpa using Array.mem_of_getElem? ht
        have hall : ([22, 22, 22, 9, 3].all fun u => !Tryz.prog.wantsStandIn u) = true := by as_aux_lemma => kernel_rfl
        exact (show Tryz.prog.wantsStandIn t = false by simpa using List.all_eq_true.1 hall t hm)⟩)
    (by as_aux_lemma => kernel_rfl)
#print axioms object_numbers_holds
end Go.Proofs.YtgliaafiompilabGreatDoor

/- The walk of the writers' function for eight bytes. -/
import Derived.Test.YtgliaafiompilabGreatDoorWa
import Derived.IntWalk
namespace Go.Proofs.YtgliaafiompilabGreatDoor
open Go.RowKit Go.Lib

theorem long_round {w wr w1 : World} {T e : TypeId} {tl : List Value} {p k n : Nat} {l : List UInt8} {v : Value} {o : Obj} (hk : k < 8) (hS : Step p w wr) (hA : p < wr.heap.size) (hG : Grew (wr.alloc o).drew w1 T e tl p (l ++ lbTo n k ++ [lby n k]) v) :
    ∃ (j : Nat), Value.int .i64 ((k : Int) + 1) = .int .i64 j ∧ j ≤ 8 ∧ Wr (w1.setCell ⟨p, 0, none⟩ v) T e tl p (l ++ lbTo n j) ∧ Step p w (w1.setCell ⟨p, 0, none⟩ v) :=
  ⟨k + 1, by simp, by omega, by have := hG.1; rw [List.append_assoc] at this; exact this, hS.trans ((Step.alloc hA o).trans (Step.drew.trans hG.2))⟩

set_option maxRecDepth 100000 in
set_option maxHeartbeats 400000 in
theorem long_any (p : Nat) (full : Bool) (n : Nat) (l : List UInt8) (w : World) (h : Wr w 56 5 [.bool full] p l) (hn : U64 n) (hl : Short 10 l) :
    Calls Tryz.prog 11 #[.pointer (some ⟨p, 0, none⟩), .int .u64 n] w (WPost w 56 [.bool full] p (l ++ lb n)) := by
  have H := Lib.hid h
  clear h
  obtain ⟨i0, hi, hz0, hz1, hz2⟩ := info_parts Tryz.i5
  go_enter Tryz.func11, Tryz.ntmps11
  go_wp2
  go_loopw [5] (fun u wr => ∃ k : Nat, u = .int .i64 k ∧ k ≤ 8 ∧ Wr wr 56 5 [.bool full] p (l ++ lbTo n k) ∧ Step p w wr) (fun u _ => 8 - (intOf u).toNat)
  case atStart => exact ⟨0, rfl, by omega, by simpa [lbTo] using H.out, Step.refl _ _⟩
  case round =>
    obtain ⟨k, rfl, hk, hW, hS⟩ := hrel
    have HS := Lib.hid hS
    obtain ⟨va, vn, vc, hA, hc, hf⟩ := hW.value
    have HA := Lib.hid hA
    clear hW hS hA
    have hll : (l ++ lbTo n k).length + 1 ≤ 70368744177664 := by rw [List.length_append, lbTo_len]; unfold Short at hl; omega
    have HL := Lib.hid hll
    clear hll
    have hpl : p < wr.heap.size := HA.out.lt
    have hpn : ¬ p = wr.heap.size := by omega
    by_cases hlt : k < 8
    · have s3 : IntKind.i64.wrap (8 * (k : Int)) = 8 * (k : Int) := IntWalk.i64_in _ (by omega)
      have s4 : (8 * (k : Int)).toNat = 8 * k := by omega
      have s1 : (0 : Int) ≤ 8 * (k : Int) := by omega
      have s2 : (8 : Int) * (k : Int) ≤ 56 := by omega
      go_wp2
      go_region_law (refine step_append_wr _ rfl _ _ 45 rfl 5 i0 Tryz.u45 hi hz0 hz1 hz2 56 [.bool full] p _ _ _ _ rfl (by exact HA.out.alloc _) ⟨wr.heap.size, 0, none⟩ 1 1 [lby n k] rfl rfl (by decide) (one_new _ _ _ _ (by unfold bv; rw [long_byte])) (HL.out) ?_; intro va' vn' vc' w1 hc1 hf1 hG; have HG := Lib.hid hG; clear hG)
      all_goals
        go_wp2
        go_roundw
        case rel => exact long_round hlt HS.out HA.out.lt HG.out
        case measure => simp [intOf]; omega
    · go_wp2
      go_end0
      obtain rfl : k = 8 := by omega
      exact ⟨rfl, HA.out.wr, HS.out⟩
end Go.Proofs.YtgliaafiompilabGreatDoor

/- The walks of the writers' small functions. -/
import Derived.Test.YtgliaafiompilabGreatDoorRows
import Derived.Test.YtgliaafiompilabGreatDoorWr
import Derived.Test.YtgliaafiompilabGreatDoorEnc
import Derived.WalkSpells
import Derived.WalkLawsBesides
import Derived.Lib.Hide
import Derived.Outline
namespace Go.Proofs.YtgliaafiompilabGreatDoor
open Go.RowKit Go.Lib

theorem Tryz.u45 : Tryz.prog.underlying 45 = some (.slice 5) := by kernel_rfl
theorem Tryz.u9 : Tryz.prog.underlying 9 = some .string := by kernel_rfl
theorem Tryz.i5 : (Tryz.prog.info? 5).map (fun i => (i.zero, i.size, i.bytes)) = some (some (.int .u8 0), 1, 1) := by kernel_rfl

theorem text_end {w w1 w2 : World} {T : TypeId} {tl : List Value} {p : Nat} {l : List UInt8} {s : ByteArray} {v : Value} (hS : Step p w w1) (hG : Grew w1 w2 T 5 tl p (l ++ (enc (s.size : Int) ++ s.data.toList)) v) :
    WPost w T tl p (l ++ encS s.data.toList) (.returned (.tuple #[])) (w2.setCell ⟨p, 0, none⟩ v) := by
  exact ⟨rfl, hG.1, hS.trans hG.2⟩

theorem number_end {w wr w1 : World} {T e : TypeId} {tl : List Value} {p k : Nat} {l l' x : List UInt8} {v : Value} {o : Obj} (hE : l' ++ vb k = l ++ x) (hS : Step p w wr) (hA : p < wr.heap.size) (hk : k < 128) (hG : Grew (wr.alloc o) w1 T e tl p (l' ++ [lob k]) v) :
    Wr (w1.setCell ⟨p, 0, none⟩ v) T e tl p (l ++ x) ∧ Step p w (w1.setCell ⟨p, 0, none⟩ v) := by
  rw [vb_small hk] at hE
  rw [← hE]
  exact ⟨hG.1, hS.trans ((Step.alloc hA o).trans hG.2)⟩

theorem number_round {w wr w1 : World} {T e : TypeId} {tl : List Value} {p k : Nat} {l l' x : List UInt8} {v : Value} {o : Obj} (hE : l' ++ vb k = l ++ x) (hS : Step p w wr) (hA : p < wr.heap.size) (hU : U64 k) (hk : ¬ k < 128) (hl : Short (vb k).length l') (hG : Grew (wr.alloc o) w1 T e tl p (l' ++ [hib k]) v) :
    ∃ (j : Nat) (l2 : List UInt8), Value.int .u64 ((k : Int) / 128) = .int .u64 j ∧ U64 j ∧ Wr (w1.setCell ⟨p, 0, none⟩ v) T e tl p l2 ∧ Step p w (w1.setCell ⟨p, 0, none⟩ v) ∧ l2 ++ vb j = l ++ x ∧ Short (vb j).length l2 := by
  rw [vb_great hk] at hE hl
  refine ⟨k / 128, _, by simp, by unfold U64 at *; omega, hG.1, hS.trans ((Step.alloc hA o).trans hG.2), by rw [← hE]; simp, ?_⟩
  unfold Short at *
  simp at *
  omega

set_option maxRecDepth 100000 in
set_option maxHeartbeats 400000 in
theorem number_any (p : Nat) (full : Bool) (n : Int) (l : List UInt8) (w : World) (h : Wr w 56 5 [.bool full] p l) (hn : I64 n) (hl : Short 10 l) :
    Calls Tryz.prog 111 #[.pointer (some ⟨p, 0, none⟩), .int .i64 n] w (WPost w 56 [.bool full] p (l ++ enc n)) := by
  have H := Lib.hid h
  clear h
  go_enter Tryz.func111, Tryz.ntmps111
  go_wp2
  rw [zig_prog n hn]
  have hz := zig_lt hn
  generalize n / 9223372036854775808 = q1
  clear hn
  go_loopw [4] (fun u wr => ∃ (k : Nat) (l' : List UInt8), u = .int .u64 k ∧ U64 k ∧ Wr wr 56 5 [.bool full] p l' ∧ Step p w wr ∧ l' ++ vb k = l ++ enc n ∧ Short (vb k).length l') (fun u _ => (intOf u).toNat)
  case atStart => exact ⟨_, _, rfl, hz, H.out, Step.refl _ _, rfl, by have := vb_len10 hz; unfold Short at *; omega⟩
  case round =>
    obtain ⟨k, l', rfl, hk, hW, hS, hE, hl'⟩ := hrel
    have HS := Lib.hid hS
    have HE := Lib.hid hE
    obtain ⟨va, vn, vc, hA, hc, hf⟩ := hW.value
    have HA := Lib.hid hA
    have hlen : l'.length + 1 ≤ 70368744177664 := hl'.le 1 (vb_pos k)
    have HL := Lib.hid hlen
    clear hW hS hE hA hlen
    obtain ⟨i0, hi, hz0, hz1, hz2⟩ := info_parts Tryz.i5
    by_cases hlt : k < 128
    · go_wp2_with (at_builtin; refine wpList_append_wr _ rfl _ _ 45 rfl 5 i0 Tryz.u45 hi hz0 hz1 hz2 56 [.bool full] p l' _ _ _ rfl (HA.out.alloc _) ⟨wr.heap.size, 0, none⟩ 1 1 [lob k] rfl rfl (by decide) ?c1 HL.out ?_)
      case c1 => exact one_new _ _ _ _ (by unfold bv; rw [byte_of k hlt])
      intro va' vn' vc' w1 hc1 hf1 hG
      have HG := Lib.hid hG
      clear hG
      go_wp2
      go_end0
      exact ⟨rfl, number_end HE.out HS.out HA.out.lt hlt HG.out⟩
    · go_wp2_with (at_builtin; refine wpList_append_wr _ rfl _ _ 45 rfl 5 i0 Tryz.u45 hi hz0 hz1 hz2 56 [.bool full] p l' _ _ _ rfl (HA.out.alloc _) ⟨wr.heap.size, 0, none⟩ 1 1 [hib k] rfl rfl (by decide) ?c1 HL.out ?_)
      case c1 => exact one_new _ _ _ _ (by unfold bv; rw [byte_or])
      intro va' vn' vc' w1 hc1 hf1 hG
      have HG := Lib.hid hG
      clear hG
      go_wp2
      go_roundw
      case rel => exact number_round HE.out HS.out HA.out.lt hk hlt hl' HG.out
      case measure => simp [intOf]; omega
set_option maxRecDepth 100000 in
set_option maxHeartbeats 400000 in
theorem numbers_one (p : Nat) (full : Bool) (n : Int) (l : List UInt8) (w : World) (h : Wr w 56 5 [.bool full] p l) (hn : I64 n) (hl : Short 10 l) :
    Calls Tryz.prog 35 #[.pointer (some ⟨p, 0, none⟩), .slice (some ⟨w.heap.size, 0, none⟩) 1 1] (w.alloc (.cells #[.int .i64 n] 3)) (WPost w 56 [.bool full] p (l ++ enc n)) := by
  have H := Lib.hid h
  clear h
  go_enter Tryz.func35, Tryz.ntmps35
  go_wp2
  refine wp_loop_rounds 2 ?_
  rw [rounds_succ]
  go_wp2_with fail
  refine (number_any p full n l _ (H.out.alloc _) hn hl).mono ?_
  rintro e w1 ⟨rfl, hW, hS⟩
  have HW := Lib.hid hW
  have HS := Lib.hid hS
  clear hW hS
  go_wp2_with fail
  rw [rounds_succ]
  go_wp2_with fail
  go_end0
  exact ⟨rfl, HW.out, (Step.alloc H.out.lt _).trans HS.out⟩

set_option maxRecDepth 100000 in
set_option maxHeartbeats 400000 in
theorem truth_two (p : Nat) (full b1 b2 : Bool) (l : List UInt8) (w : World) (h : Wr w 56 5 [.bool full] p l) (hl : Short 20 l) :
    Calls Tryz.prog 79 #[.pointer (some ⟨p, 0, none⟩), .slice (some ⟨w.heap.size, 0, none⟩) 2 2] (w.alloc (.cells #[.bool b1, .bool b2] 4)) (WPost w 56 [.bool full] p (l ++ encB b1 ++ encB b2)) := by
  have H := Lib.hid h
  have ha := h.apart (.cells #[.bool b1, .bool b2] 4)
  have HA := Lib.hid ha
  clear h ha
  go_enter Tryz.func79, Tryz.ntmps79
  go_wp2
  refine wp_loop_rounds 3 ?_
  rw [rounds_succ]
  cases b1
  all_goals
    go_wp2_with fail
    refine (number_any p full _ l _ (H.out.alloc _) (by decide) (hl.mono (by decide))).mono ?_
    rintro e w1 ⟨rfl, hW, hS⟩
    have hk := hS.cellA HA.out
    have HW := Lib.hid hW
    have HS := Lib.hid hS
    clear hW hS
    go_wp2_with fail
    rw [rounds_succ]
    cases b2
    all_goals
      go_wp2_with fail
      refine (number_any p full _ _ _ HW.out (by decide) (hl.add (by decide) (by decide))).mono ?_
      rintro e w2 ⟨rfl, hW2, hS2⟩
      have HW2 := Lib.hid hW2
      have HS2 := Lib.hid hS2
      clear hW2 hS2
      go_wp2_with fail
      rw [rounds_succ]
      go_wp2_with fail
      go_end0
      exact ⟨rfl, HW2.out, (Step.alloc H.out.lt _).trans (HS.out.trans HS2.out)⟩

set_option maxRecDepth 100000 in
set_option maxHeartbeats 400000 in
theorem text_any (p : Nat) (full : Bool) (s : ByteArray) (l : List UInt8) (w : World) (h : Wr w 56 5 [.bool full] p l) (hl : Short (10 + s.size) l) :
    Calls Tryz.prog 34 #[.pointer (some ⟨p, 0, none⟩), .string s] w (WPost w 56 [.bool full] p (l ++ encS s.data.toList)) := by
  have H := Lib.hid h
  clear h
  obtain ⟨i0, hi, hz0, hz1, hz2⟩ := info_parts Tryz.i5
  go_enter Tryz.func34, Tryz.ntmps34
  go_wp2_with fail
  refine (numbers_one p full _ l _ H.out (hl.i64 (by omega)) (hl.mono (by omega))).mono ?_
  rintro e w1 ⟨rfl, hW, hS⟩
  obtain ⟨va, vn, vc, hA, hc, hf⟩ := hW.value
  have HA := Lib.hid hA
  have HS := Lib.hid hS
  clear hW hS hA
  go_wp2_with (at_builtin; refine wpList_append_wr_str _ rfl _ _ 45 9 rfl 5 i0 Tryz.u45 Tryz.u9 hi hz0 hz1 hz2 56 [.bool full] p _ _ _ _ rfl HA.out s rfl ?c1 ?_)
  case c1 => exact hl.str
  intro va' vn' vc' w2 hc1 hf1 hG
  have HG := Lib.hid hG
  clear hG
  go_wp2
  go_end0
  exact text_end HS.out HG.out
end Go.Proofs.YtgliaafiompilabGreatDoor

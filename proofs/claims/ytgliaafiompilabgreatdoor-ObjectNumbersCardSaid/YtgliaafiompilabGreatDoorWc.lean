/- The walks of the reference's small writing functions. -/
import Derived.Test.YtgliaafiompilabGreatDoorWb
namespace Go.Proofs.YtgliaafiompilabGreatDoor
open Go.RowKit Go.Lib

theorem byte_or' (k : Nat) (h : U64 k) : bits .or .u8 (bits .and .u64 (k : Int) 127 % 256) 128 = ((hib k).toNat : Int) := by
  rw [u64_and _ _ (by omega) (by unfold U64 at h; omega) (by omega) (by omega)]
  have : ((k : Int).toNat &&& (127 : Int).toNat) = k % 128 := nat_mask7 k
  rw [this, byte_or (k % 128)]
  unfold hib
  rw [Nat.mod_mod]

theorem olong_round {w wr w1 : World} {T e : TypeId} {tl : List Value} {p k n : Nat} {l : List UInt8} {v : Value} {o : Obj} (hk : k < 8) (hS : Step p w wr) (hA : p < wr.heap.size) (hG : Grew (wr.alloc o) w1 T e tl p (l ++ (lbTo n k ++ [lby n k])) v) :
    ∃ (j : Nat), Value.int .i64 ((k : Int) + 1) = .int .i64 j ∧ j ≤ 8 ∧ Wr (w1.setCell ⟨p, 0, none⟩ v) T e tl p (l ++ lbTo n j) ∧ Step p w (w1.setCell ⟨p, 0, none⟩ v) :=
  ⟨k + 1, by simp, by omega, hG.1, hS.trans ((Step.alloc hA o).trans hG.2)⟩

set_option maxRecDepth 100000 in
set_option maxHeartbeats 400000 in
theorem onum_any (p : Nat) (n : Int) (l : List UInt8) (w : World) (h : Wr w 62 5 [] p l) (hn : I64 n) (hl : Short 10 l) :
    Calls Tryz.prog 40 #[.pointer (some ⟨p, 0, none⟩), .int .i64 n] w (WPost w 62 [] p (l ++ enc n)) := by
  have H := Lib.hid h
  clear h
  have hz := zig_lt hn
  obtain ⟨i0, hi, hz0, hz1, hz2⟩ := info_parts Tryz.i5
  by_cases hneg : n < 0
  · go_enter Tryz.func40, Tryz.ntmps40
    go_wp2
    rw [zig_ref_neg n hn hneg]
    clear hn
    go_loopw [4] (fun u wr => ∃ (k : Nat) (l' : List UInt8), u = .int .u64 k ∧ U64 k ∧ Wr wr 62 5 [] p l' ∧ Step p w wr ∧ l' ++ vb k = l ++ enc n ∧ Short (vb k).length l') (fun u _ => (intOf u).toNat)
    case atStart => exact ⟨_, _, rfl, hz, H.out, Step.refl _ _, rfl, by have := vb_len10 hz; unfold Short at *; omega⟩
    case round =>
      obtain ⟨k, l', rfl, hk, hW, hS, hE, hl'⟩ := hrel
      have HS := Lib.hid hS
      have HE := Lib.hid hE
      obtain ⟨va, vn, vc, hA, hc, hf⟩ := hW.value
      have HA := Lib.hid hA
      have hlen : l'.length + 1 ≤ 70368744177664 := hl'.le 1 (vb_pos k)
      have HL := Lib.hid hlen
      clear hW hS hE hA hlen
      by_cases hlt : k < 128
      · go_wp2_with (at_builtin; refine wpList_append_wr _ rfl _ _ 45 rfl 5 i0 Tryz.u45 hi hz0 hz1 hz2 62 [] p l' _ _ _ rfl (HA.out.alloc _) ⟨wr.heap.size, 0, none⟩ 1 1 [lob k] rfl rfl (by decide) ?c1 HL.out ?_)
        case c1 => exact one_new _ _ _ _ (by unfold bv; rw [byte_of k hlt])
        intro va' vn' vc' w1 hc1 hf1 hG
        have HG := Lib.hid hG
        clear hG
        go_wp2
        go_end0
        exact ⟨rfl, number_end HE.out HS.out HA.out.lt hlt HG.out⟩
      · go_wp2_with (at_builtin; refine wpList_append_wr _ rfl _ _ 45 rfl 5 i0 Tryz.u45 hi hz0 hz1 hz2 62 [] p l' _ _ _ rfl (HA.out.alloc _) ⟨wr.heap.size, 0, none⟩ 1 1 [hib k] rfl rfl (by decide) ?c1 HL.out ?_)
        case c1 => exact one_new _ _ _ _ (by unfold bv; rw [byte_or' k hk])
        intro va' vn' vc' w1 hc1 hf1 hG
        have HG := Lib.hid hG
        clear hG
        go_wp2
        go_roundw
        case rel => exact number_round HE.out HS.out HA.out.lt hk hlt hl' HG.out
        case measure => simp [intOf]; omega
  · go_enter Tryz.func40, Tryz.ntmps40
    go_wp2
    rw [zig_ref_pos n hn (by omega)]
    clear hn
    go_loopw [4] (fun u wr => ∃ (k : Nat) (l' : List UInt8), u = .int .u64 k ∧ U64 k ∧ Wr wr 62 5 [] p l' ∧ Step p w wr ∧ l' ++ vb k = l ++ enc n ∧ Short (vb k).length l') (fun u _ => (intOf u).toNat)
    case atStart => exact ⟨_, _, rfl, hz, H.out, Step.refl _ _, rfl, by have := vb_len10 hz; unfold Short at *; omega⟩
    case round =>
      obtain ⟨k, l', rfl, hk, hW, hS, hE, hl'⟩ := hrel
      have HS := Lib.hid hS
      have HE := Lib.hid hE
      obtain ⟨va, vn, vc, hA, hc, hf⟩ := hW.value
      have HA := Lib.hid hA
      have hlen : l'.length + 1 ≤ 70368744177664 := hl'.le 1 (vb_pos k)
      have HL := Lib.hid hlen
      clear hW hS hE hA hlen
      by_cases hlt : k < 128
      · go_wp2_with (at_builtin; refine wpList_append_wr _ rfl _ _ 45 rfl 5 i0 Tryz.u45 hi hz0 hz1 hz2 62 [] p l' _ _ _ rfl (HA.out.alloc _) ⟨wr.heap.size, 0, none⟩ 1 1 [lob k] rfl rfl (by decide) ?c1 HL.out ?_)
        case c1 => exact one_new _ _ _ _ (by unfold bv; rw [byte_of k hlt])
        intro va' vn' vc' w1 hc1 hf1 hG
        have HG := Lib.hid hG
        clear hG
        go_wp2
        go_end0
        exact ⟨rfl, number_end HE.out HS.out HA.out.lt hlt HG.out⟩
      · go_wp2_with (at_builtin; refine wpList_append_wr _ rfl _ _ 45 rfl 5 i0 Tryz.u45 hi hz0 hz1 hz2 62 [] p l' _ _ _ rfl (HA.out.alloc _) ⟨wr.heap.size, 0, none⟩ 1 1 [hib k] rfl rfl (by decide) ?c1 HL.out ?_)
        case c1 => exact one_new _ _ _ _ (by unfold bv; rw [byte_or' k hk])
        intro va' vn' vc' w1 hc1 hf1 hG
        have HG := Lib.hid hG
        clear hG
        go_wp2
        go_roundw
        case rel => exact number_round HE.out HS.out HA.out.lt hk hlt hl' HG.out
        case measure => simp [intOf]; omega

set_option maxRecDepth 100000 in
set_option maxHeartbeats 400000 in
theorem olong_any (p : Nat) (n : Nat) (l : List UInt8) (w : World) (h : Wr w 62 5 [] p l) (hn : U64 n) (hl : Short 10 l) :
    Calls Tryz.prog 16 #[.pointer (some ⟨p, 0, none⟩), .int .u64 n] w (WPost w 62 [] p (l ++ lb n)) := by
  have H := Lib.hid h
  clear h
  obtain ⟨i0, hi, hz0, hz1, hz2⟩ := info_parts Tryz.i5
  go_enter Tryz.func16, Tryz.ntmps16
  go_wp2
  go_loopw [4] (fun u wr => ∃ k : Nat, u = .int .i64 k ∧ k ≤ 8 ∧ Wr wr 62 5 [] p (l ++ lbTo n k) ∧ Step p w wr) (fun u _ => 8 - (intOf u).toNat)
  case atStart => exact ⟨0, rfl, by omega, by simpa [lbTo] using H.out, Step.refl _ _⟩
  case round =>
    obtain ⟨k, rfl, hk, hW, hS⟩ := hrel
    have HS := Lib.hid hS
    obtain ⟨va, vn, vc, hA, hc, hf⟩ := hW.value
    have HA := Lib.hid hA
    clear hW hS hA
    have hll : (l ++ lbTo n k).length + 1 ≤ 70368744177664 := by rw [List.length_append, lbTo_len]; unfold Short at hl; omega
    have HL := Lib.hid hll
    clear hll
    have hpl : p < wr.heap.size := HA.out.lt
    have hpn : ¬ p = wr.heap.size := by omega
    by_cases hlt : k < 8
    · have s3 : IntKind.i64.wrap (8 * (k : Int)) = 8 * (k : Int) := IntWalk.i64_in _ (by omega)
      have s4 : (8 * (k : Int)).toNat = 8 * k := by omega
      have s1 : (0 : Int) ≤ 8 * (k : Int) := by omega
      have s2 : (8 : Int) * (k : Int) ≤ 56 := by omega
      go_wp2_with (at_builtin; refine wpList_append_wr _ rfl _ _ 45 rfl 5 i0 Tryz.u45 hi hz0 hz1 hz2 62 [] p _ _ _ _ rfl (HA.out.alloc _) ⟨wr.heap.size, 0, none⟩ 1 1 [lby n k] rfl rfl (by decide) ?c1 HL.out ?_)
      case c1 => exact one_new _ _ _ _ (by unfold bv; rw [long_byte'])
      intro va' vn' vc' w1 hc1 hf1 hG
      have HG := Lib.hid hG
      clear hG
      go_wp2
      go_roundw
      case rel => exact olong_round hlt HS.out HA.out.lt HG.out
      case measure => simp [intOf]; omega
    · go_wp2
      go_end0
      obtain rfl : k = 8 := by omega
      exact ⟨rfl, HA.out.wr, HS.out⟩

set_option maxRecDepth 100000 in
set_option maxHeartbeats 400000 in
theorem ostr_any (p : Nat) (s : ByteArray) (l : List UInt8) (w : World) (h : Wr w 62 5 [] p l) (hl : Short (10 + s.size) l) :
    Calls Tryz.prog 41 #[.pointer (some ⟨p, 0, none⟩), .string s] w (WPost w 62 [] p (l ++ encS s.data.toList)) := by
  have H := Lib.hid h
  clear h
  obtain ⟨i0, hi, hz0, hz1, hz2⟩ := info_parts Tryz.i5
  go_enter Tryz.func41, Tryz.ntmps41
  go_wp2_with fail
  refine (onum_any p _ l _ H.out (hl.i64 (by omega)) (hl.mono (by omega))).mono ?_
  rintro e w1 ⟨rfl, hW, hS⟩
  obtain ⟨va, vn, vc, hA, hc, hf⟩ := hW.value
  have HA := Lib.hid hA
  have HS := Lib.hid hS
  clear hW hS hA
  go_wp2_with (at_builtin; refine wpList_append_wr_str _ rfl _ _ 45 9 rfl 5 i0 Tryz.u45 Tryz.u9 hi hz0 hz1 hz2 62 [] p _ _ _ _ rfl HA.out s rfl ?c1 ?_)
  case c1 => exact hl.str
  intro va' vn' vc' w2 hc1 hf1 hG
  have HG := Lib.hid hG
  clear hG
  go_wp2
  go_end0
  exact text_end HS.out HG.out

set_option maxRecDepth 100000 in
set_option maxHeartbeats 400000 in
theorem otruth_any (p : Nat) (b : Bool) (l : List UInt8) (w : World) (h : Wr w 62 5 [] p l) (hl : Short 10 l) :
    Calls Tryz.prog 42 #[.pointer (some ⟨p, 0, none⟩), .bool b] w (WPost w 62 [] p (l ++ encB b)) := by
  have H := Lib.hid h
  clear h
  cases b
  all_goals
    go_enter Tryz.func42, Tryz.ntmps42
    go_wp2_with fail
    refine (onum_any p _ l _ H.out (by decide) hl).mono ?_
    rintro e w1 ⟨rfl, hW, hS⟩
    have HW := Lib.hid hW
    have HS := Lib.hid hS
    clear hW hS
    go_wp2_with fail
    go_end0
    exact ⟨rfl, HW.out, HS.out⟩

set_option maxRecDepth 100000 in
set_option maxHeartbeats 400000 in
theorem ostrs_nil (p : Nat) (l : List UInt8) (w : World) (h : Wr w 62 5 [] p l) (hl : Short 10 l) :
    Calls Tryz.prog 43 #[.pointer (some ⟨p, 0, none⟩), .slice none 0 0] w (WPost w 62 [] p (l ++ enc 0)) := by
  have H := Lib.hid h
  clear h
  go_enter Tryz.func43, Tryz.ntmps43
  go_wp2_with fail
  refine (onum_any p _ l _ H.out (by decide) hl).mono ?_
  rintro e w1 ⟨rfl, hW, hS⟩
  have HW := Lib.hid hW
  have HS := Lib.hid hS
  clear hW hS
  go_wp2_with fail
  refine wp_loop_rounds 1 ?_
  rw [rounds_succ]
  go_wp2_with fail
  go_end0
  exact ⟨rfl, HW.out, HS.out⟩

end Go.Proofs.YtgliaafiompilabGreatDoor

/- The walk of the sanity check of the statement. -/
import Derived.Test.YtgliaafiompilabGreatDoorSb
namespace Go.Proofs.YtgliaafiompilabGreatDoor
open Go.RowKit Go.Lib

theorem file_len (body : List UInt8) : (file body).length = body.length + 12 := by
  have : (lb (fsum (magic ++ body))).length = 8 := lbTo_len _ 8
  unfold file
  rw [List.length_append, List.length_append, this]
  show 4 + body.length + 8 = _
  omega

theorem body_bare_len (name : ByteArray) (rel : Int) (hr : I64 rel) (hn : name.size ≤ 10000) : (encObject (encModule 2 name rel (enc 0) (enc 0)) (enc 0)).length ≤ 50000 := by
  have q0 := encModule_le (kind := 2) (name := name) (imps := enc 0) (strs := enc 0) (by decide) hr (show I64 (name.size : Int) from ⟨by omega, by omega⟩)
  have q4 := enc0_len
  unfold encObject
  simp only [List.length_append] at *
  omega

theorem obj_pos (m a : List UInt8) : 1 ≤ (encObject m a).length := by
  unfold encObject
  have := vb_pos (zig 0)
  simp only [List.length_append]
  unfold enc
  omega

theorem name_a : (⟨#[97]⟩ : ByteArray).toList.isEmpty = false := by rw [ByteArray.toList_eq]; rfl

set_option maxRecDepth 100000 in
set_option maxHeartbeats 4000000 in
theorem awake_any (w : World) : Calls Tryz.prog 4 #[] w (RPost w (.bool true)) := by
  have hbl := body_bare_len ⟨#[97]⟩ 0 (by decide) (by decide)
  have hbp := obj_pos (encModule 2 ⟨#[97]⟩ 0 (enc 0) (enc 0)) (enc 0)
  obtain ⟨M, hM⟩ : ∃ M, (encObject (encModule 2 ⟨#[97]⟩ 0 (enc 0) (enc 0)) (enc 0)).length = M := ⟨_, rfl⟩
  have HM := Lib.hid hM
  rw [hM] at hbl hbp
  have HBL := Lib.hid hbl
  have HBP := Lib.hid hbp
  clear hM hbl hbp
  go_enter Tryz.func4, Tryz.ntmps4
  go_wp2_with fail
  refine (encode_bare _ ⟨#[97]⟩ 0 name_a (by decide) (by decide) (by decide)).mono ?_
  rintro e w1 ⟨g, c, rfl, hRd, hgc, hb⟩
  have k0 : ∀ o, w1.cell? ⟨w.heap.size, o, none⟩ = _ := fun o => hb.cell (p := ⟨w.heap.size, o, none⟩) (by simp)
  have z0 : w.heap.size < w1.heap.size := by have := hb.size; simp at this; omega
  have HB1 := Lib.hid (((Below.refl w.heap.size w).alloc (Nat.le_refl _) (.cells #[.int .i64 2, .string ⟨#[97]⟩, .int .i64 0, .slice none 0 0, .slice none 0 0, .slice none 0 0, .slice none 0 0, .slice none 0 0, .slice none 0 0, .slice none 0 0, .slice none 0 0, .slice none 0 0] 44)).trans (hb.mono (by simp)))
  have hg : g < w1.heap.size := World.block_lt_of_cell? w1 _ (hRd 0 (by rw [file_len]; omega))
  have h0 := hRd 0 (by rw [file_len]; omega)
  rw [show (file (encObject (encModule 2 ⟨#[97]⟩ 0 (enc 0) (enc 0)) (enc 0))).getD 0 0 = 76 from rfl, Nat.zero_add] at h0
  have h0' : w1.cell? ⟨g, 0, none⟩ = some (.int .u8 76) := h0
  rw [file_len, HM.out] at hgc ⊢
  have HRd := Lib.hid hRd
  have HGC := Lib.hid hgc
  have H0 := Lib.hid h0'
  clear hRd hgc hb h0 h0'
  go_wp2_with fail
  refine (decode_bare w1 g c M (encObject (encModule 2 ⟨#[97]⟩ 0 (enc 0) (enc 0)) (enc 0)) HM.out HBL.out HGC.out HRd.out ⟨#[97]⟩ 0 name_a (by decide) (by decide) (by decide) rfl).mono ?_
  rintro e w2 ⟨rfl, hb⟩
  have k1 : ∀ o, w2.cell? ⟨w.heap.size, o, none⟩ = _ := fun o => (hb.cell (p := ⟨w.heap.size, o, none⟩) z0).trans (k0 o)
  have k2 : w2.cell? ⟨g, 0, none⟩ = some (.int .u8 76) := (hb.cell (p := ⟨g, 0, none⟩) hg).trans H0.out
  have z1 : w.heap.size < w2.heap.size := Nat.lt_of_lt_of_le z0 hb.size
  have z2 : g < w2.heap.size := Nat.lt_of_lt_of_le hg hb.size
  have HB2 := Lib.hid (HB1.out.trans (hb.mono (by omega)))
  have t1 : decide (12 < M + 12) = true := by have := HBP.out; simp; omega
  have t2 : decide ((12 : Int) < (M : Int) + 12) = true := by have := HBP.out; simp; omega
  have t3 : (0 : Nat) < M + 12 := by omega
  have t4 : (0 : Int) < (M : Int) + 12 := by omega
  clear hb k0 HRd
  go_wp2_with fail
  refine (same_bare _ 2 ⟨#[97]⟩ 0 (by decide) (by decide) (by decide)).mono ?_
  rintro e w3 ⟨rfl, hb⟩
  have HB3 := Lib.hid ((HB2.out.alloc (by omega) (.cells #[.int .i64 2, .string ⟨#[97]⟩, .int .i64 0, .slice none 0 0, .slice none 0 0, .slice none 0 0, .slice none 0 0, .slice none 0 0, .slice none 0 0, .slice none 0 0, .slice none 0 0, .slice none 0 0] 44)).trans (hb.mono (by simp; omega)))
  clear hb
  go_wp2_with fail
  go_ret
  exact ⟨rfl, HB3.out⟩

end Go.Proofs.YtgliaafiompilabGreatDoor

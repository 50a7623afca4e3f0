/- The walks of the writer's lists of one element, of a module and of an object. -/
import Derived.Test.YtgliaafiompilabGreatDoorWd
namespace Go.Proofs.YtgliaafiompilabGreatDoor
open Go.RowKit Go.Lib

theorem cell_alloc {w : World} {a : Addr} {v : Value} (o : Obj) (h : w.cell? a = some v) : (w.alloc o).cell? a = some v := by
  have := World.block_lt_of_cell? w a h
  rw [World.cell?_of_block (w := w) (Below.heap_alloc _ _ _ this)]; exact h

theorem numbers_one' (p : Nat) (full : Bool) (n : Int) (l : List UInt8) (w : World) (h : Wr w 56 5 [.bool full] p l) (hn : I64 n) (hl : Short 10 l) (b : Nat) (hb : w.heap.size = b) :
    Calls Tryz.prog 35 #[.pointer (some ⟨p, 0, none⟩), .slice (some ⟨b, 0, none⟩) 1 1] (w.alloc (.cells #[.int .i64 n] 3)) (WPost w 56 [.bool full] p (l ++ enc n)) := by
  subst hb
  exact numbers_one p full n l w h hn hl

/-- The bytes of a struct without parameters and fields. -/
def encStruct (since : Int) (b1 b2 : Bool) (s : ByteArray) : List UInt8 := enc since ++ (encB b1 ++ (encB b2 ++ (encS s.data.toList ++ (enc 0 ++ enc 0))))

theorem Short.addB {k m : Nat} {l : List UInt8} (h : Short k l) (b : Bool) (hm : m + 10 ≤ k) : Short m (l ++ encB b) := by
  unfold encB
  exact h.add (by cases b <;> decide) hm

set_option maxRecDepth 100000 in
set_option maxHeartbeats 1000000 in
theorem module2_any (p : Nat) (full : Bool) (l : List UInt8) (w : World) (h : Wr w 56 5 [.bool full] p l) (since : Int) (b1 b2 : Bool) (s : ByteArray) (hr : I64 since) (hl : Short (60 + s.size) l) (q : Nat) (hq : w.cell? ⟨q, 0, none⟩ = some (.pointer (some ⟨p, 0, none⟩))) (ha : Apart p w q) :
    Calls Tryz.prog 78 #[.agg #[.int .i64 since, .bool b1, .bool b2, .string s, .slice none 0 0, .slice none 0 0], .pointer (some ⟨q, 0, none⟩)] w (WPost w 56 [.bool full] p (l ++ encStruct since b1 b2 s)) := by
  have H := Lib.hid h
  have HB := Lib.hid (h.apart (.cells #[.int .i64 since, .bool b1, .bool b2, .string s, .slice none 0 0, .slice none 0 0] 30))
  have HQ := Lib.hid (ha.alloc h.lt (.cells #[.int .i64 since, .bool b1, .bool b2, .string s, .slice none 0 0, .slice none 0 0] 30))
  have hqs := ha.1
  clear h ha
  have hmf : ∀ (fn : Fn) (first cap : Array Value) (w : World), (Instr.makeFunc fn first cap).run Tryz.prog w = .ok (.func fn first cap) w := fun _ _ _ _ => rfl
  go_enter Tryz.func78, Tryz.ntmps78
  go_wp2_with fail
  refine (numbers_one' p full since l _ (H.out.alloc _) hr (hl.mono (by omega)) (w.heap.size + 1) (by simp)).mono ?_
  rintro e w1 ⟨rfl, hW, hS⟩
  have hk1 := hS.cellA HB.out
  have hk2 := hS.cellA HQ.out
  have hb1 : w.heap.size < w1.heap.size := (hS.apart HB.out).1
  have HB1 := Lib.hid (hS.apart HB.out)
  have HQ1 := Lib.hid (hS.apart HQ.out)
  have HW := Lib.hid hW
  have HS := Lib.hid hS
  clear hW hS
  go_wp2_with fail
  refine (truth_two p full b1 b2 _ _ HW.out ((hl.add hr (m := 50 + s.size) (by omega)).mono (by omega))).mono ?_
  rintro e w2 ⟨rfl, hW2, hS2⟩
  have HS2 := Lib.hid (HS.out.trans hS2)
  have hk3 := HS2.out.cellA HB.out
  have hk4 := HS2.out.cellA HQ.out
  have HW2 := Lib.hid hW2
  clear hW2 hS2 hk1 hk2
  have HL2 := Lib.hid (((hl.add hr (m := 50 + s.size) (by omega)).addB b1 (m := 40 + s.size) (by omega)).addB b2 (m := 30 + s.size) (by omega))
  go_wp2_with fail
  refine (text_any p full s _ _ HW2.out (HL2.out.mono (by omega))).mono ?_
  rintro e w3 ⟨rfl, hW3, hS3⟩
  have HS3 := Lib.hid (HS2.out.trans hS3)
  have hk5 := HS3.out.cellA HB.out
  have hk6 := HS3.out.cellA HQ.out
  have HW3 := Lib.hid hW3
  clear hW3 hS3 hk3 hk4
  have HL3 := Lib.hid (HL2.out.addS (s := s) (m := 20) (by omega))
  go_wp2_with fail
  refine (texts_nil p full _ _ HW3.out (HL3.out.mono (by omega))).mono ?_
  rintro e w4 ⟨rfl, hW4, hS4⟩
  have HS4 := Lib.hid (HS3.out.trans hS4)
  have hk7 := HS4.out.cellA HB.out
  have hk8 := HS4.out.cellA HQ.out
  have HW4 := Lib.hid hW4
  clear hW4 hS4 hk5 hk6
  have HL4 := Lib.hid (HL3.out.add (n := 0) (m := 10) (by decide) (by omega))
  go_wp2_with fail
  refine (write81_nil p full _ _ HW4.out HL4.out _ _ _).mono ?_
  rintro e w5 ⟨rfl, hW5, hS5⟩
  have HS5 := Lib.hid (HS4.out.trans hS5)
  have HW5 := Lib.hid hW5
  clear hW5 hS5 hk7 hk8
  go_wp2_with fail
  go_end0
  exact ⟨rfl, by unfold encStruct; simpa only [List.append_assoc] using HW5.out, (Step.alloc H.out.lt _).trans HS5.out⟩

set_option maxRecDepth 100000 in
set_option maxHeartbeats 1000000 in
theorem object2_any (p : Nat) (full : Bool) (l : List UInt8) (w : World) (h : Wr w 56 5 [.bool full] p l) (s : ByteArray) (r : Int) (d : Nat) (hr : I64 r) (hd : U64 d) (hl : Short (30 + s.size) l) (q : Nat) (hq : w.cell? ⟨q, 0, none⟩ = some (.pointer (some ⟨p, 0, none⟩))) (ha : Apart p w q) :
    Calls Tryz.prog 33 #[.agg #[.string s, .int .i64 r, .int .u64 d], .pointer (some ⟨q, 0, none⟩)] w (WPost w 56 [.bool full] p (l ++ (encS s.data.toList ++ (enc r ++ lb d)))) := by
  have H := Lib.hid h
  have HB := Lib.hid (h.apart (.cells #[.string s, .int .i64 r, .int .u64 d] 39))
  have HQ := Lib.hid (ha.alloc h.lt (.cells #[.string s, .int .i64 r, .int .u64 d] 39))
  have hqs := ha.1
  clear h ha
  go_enter Tryz.func33, Tryz.ntmps33
  go_wp2_with fail
  refine (text_any p full s l _ (H.out.alloc _) (hl.mono (by omega))).mono ?_
  rintro e w1 ⟨rfl, hW, hS⟩
  have hk1 := hS.cellA HB.out
  have hk2 := hS.cellA HQ.out
  have hb1 : w.heap.size < w1.heap.size := (hS.apart HB.out).1
  have hb2 : q < w1.heap.size := (hS.apart HQ.out).1
  have HW := Lib.hid hW
  have HS := Lib.hid hS
  clear hW hS
  have HL := Lib.hid (hl.addS (s := s) (m := 20) (by omega))
  go_wp2_with fail
  refine (numbers_one p full r _ _ HW.out hr (HL.out.mono (by omega))).mono ?_
  rintro e w2 ⟨rfl, hW2, hS2⟩
  have HS2 := Lib.hid (HS.out.trans hS2)
  have hk3 := HS2.out.cellA HB.out
  have hk4 := HS2.out.cellA HQ.out
  have HW2 := Lib.hid hW2
  clear hW2 hS2 hk1 hk2
  go_wp2_with fail
  refine (long_any p full d _ _ HW2.out hd (HL.out.add hr (by omega))).mono ?_
  rintro e w3 ⟨rfl, hW3, hS3⟩
  have HS3 := Lib.hid (HS2.out.trans hS3)
  have HW3 := Lib.hid hW3
  clear hW3 hS3
  go_wp2_with fail
  go_end0
  exact ⟨rfl, by simpa only [List.append_assoc] using HW3.out, (Step.alloc H.out.lt _).trans HS3.out⟩

set_option maxRecDepth 100000 in
set_option maxHeartbeats 1000000 in
theorem write75_one (p : Nat) (full : Bool) (l : List UInt8) (w : World) (h : Wr w 56 5 [.bool full] p l) (s : ByteArray) (r : Int) (hr : I64 r) (hl : Short (30 + s.size) l) (q : Nat) (hq : w.cell? ⟨q, 0, none⟩ = some (.pointer (some ⟨p, 0, none⟩))) (ha : Apart p w q) (b c : Nat) (hc0 : w.cell? ⟨b, 0, none⟩ = some (.string s)) (hc1 : w.cell? ⟨b, 1, none⟩ = some (.int .i64 r)) (hb : Apart p w b) :
    Calls Tryz.prog 75 #[.pointer (some ⟨p, 0, none⟩), .slice (some ⟨b, 0, none⟩) 1 c, .func (.func 76) #[] #[.pointer (some ⟨q, 0, none⟩)]] w (WPost w 56 [.bool full] p (l ++ (enc 1 ++ (encS s.data.toList ++ enc r)))) := by
  have H := Lib.hid h
  have HB := Lib.hid hb
  have HQ := Lib.hid ha
  clear h ha hb
  go_enter Tryz.func75, Tryz.ntmps75
  go_wp2_with fail
  refine (numbers_one p full _ l _ H.out (by decide) (hl.mono (by omega))).mono ?_
  rintro e w1 ⟨rfl, hW, hS⟩
  have hk1 := hS.cellA HB.out
  have hk2 := hS.cellA HQ.out
  have hq1 : w1.cell? ⟨q, 0, none⟩ = some (.pointer (some ⟨p, 0, none⟩)) := (hk2 0).trans hq
  have hd0 := (hk1 0).trans hc0
  have hd1 := (hk1 1).trans hc1
  have HQ1 := Lib.hid (hS.apart HQ.out)
  have HL := Lib.hid (hl.add (n := 1) (m := 30 + s.size - 10) (by decide) (by omega))
  have HW := Lib.hid hW
  have HS := Lib.hid hS
  have HQC := Lib.hid hq1
  clear hW hS hk1 hk2 hq1 hq hc0 hc1
  go_wp2_with fail
  refine wp_loop_rounds 2 ?_
  rw [rounds_succ]
  go_wp2_with fail
  refine (module1_any p full _ _ (HW.out.alloc _) s r hr (HL.out.mono (by omega)) q (cell_alloc _ HQC.out) (HQ1.out.alloc HW.out.lt _)).mono ?_
  rintro e w2 ⟨rfl, hW2, hS2⟩
  have HW2 := Lib.hid hW2
  have HS2 := Lib.hid hS2
  clear hW2 hS2
  go_wp2_with fail
  rw [rounds_succ]
  go_wp2_with fail
  go_end0
  exact ⟨rfl, by simpa only [List.append_assoc] using HW2.out, HS.out.trans ((Step.alloc HW.out.lt _).trans HS2.out)⟩

set_option maxRecDepth 100000 in
set_option maxHeartbeats 1000000 in
theorem write77_one (p : Nat) (full : Bool) (l : List UInt8) (w : World) (h : Wr w 56 5 [.bool full] p l) (since : Int) (b1 b2 : Bool) (s : ByteArray) (hr : I64 since) (hl : Short (70 + s.size) l) (q : Nat) (hq : w.cell? ⟨q, 0, none⟩ = some (.pointer (some ⟨p, 0, none⟩))) (ha : Apart p w q) (b c : Nat) (hc0 : w.cell? ⟨b, 0, none⟩ = some (.int .i64 since)) (hc1 : w.cell? ⟨b, 1, none⟩ = some (.bool b1)) (hc2 : w.cell? ⟨b, 2, none⟩ = some (.bool b2)) (hc3 : w.cell? ⟨b, 3, none⟩ = some (.string s)) (hc4 : w.cell? ⟨b, 4, none⟩ = some (.slice none 0 0)) (hc5 : w.cell? ⟨b, 5, none⟩ = some (.slice none 0 0)) (hb : Apart p w b) :
    Calls Tryz.prog 77 #[.pointer (some ⟨p, 0, none⟩), .slice (some ⟨b, 0, none⟩) 1 c, .func (.func 78) #[] #[.pointer (some ⟨q, 0, none⟩)]] w (WPost w 56 [.bool full] p (l ++ (enc 1 ++ encStruct since b1 b2 s))) := by
  have H := Lib.hid h
  have HB := Lib.hid hb
  have HQ := Lib.hid ha
  clear h ha hb
  go_enter Tryz.func77, Tryz.ntmps77
  go_wp2_with fail
  refine (numbers_one p full _ l _ H.out (by decide) (hl.mono (by omega))).mono ?_
  rintro e w1 ⟨rfl, hW, hS⟩
  have hk1 := hS.cellA HB.out
  have hk2 := hS.cellA HQ.out
  have hq1 : w1.cell? ⟨q, 0, none⟩ = some (.pointer (some ⟨p, 0, none⟩)) := (hk2 0).trans hq
  have hd0 := (hk1 0).trans hc0
  have hd1 := (hk1 1).trans hc1
  have hd2 := (hk1 2).trans hc2
  have hd3 := (hk1 3).trans hc3
  have hd4 := (hk1 4).trans hc4
  have hd5 := (hk1 5).trans hc5
  have HQ1 := Lib.hid (hS.apart HQ.out)
  have HL := Lib.hid (hl.add (n := 1) (m := 70 + s.size - 10) (by decide) (by omega))
  have HW := Lib.hid hW
  have HS := Lib.hid hS
  have HQC := Lib.hid hq1
  clear hW hS hk1 hk2 hq1 hq hc0 hc1 hc2 hc3 hc4 hc5
  go_wp2_with fail
  refine wp_loop_rounds 2 ?_
  rw [rounds_succ]
  go_wp2_with fail
  refine (module2_any p full _ _ (HW.out.alloc _) since b1 b2 s hr (HL.out.mono (by omega)) q (cell_alloc _ HQC.out) (HQ1.out.alloc HW.out.lt _)).mono ?_
  rintro e w2 ⟨rfl, hW2, hS2⟩
  have HW2 := Lib.hid hW2
  have HS2 := Lib.hid hS2
  clear hW2 hS2
  go_wp2_with fail
  rw [rounds_succ]
  go_wp2_with fail
  go_end0
  exact ⟨rfl, by simpa only [List.append_assoc] using HW2.out, HS.out.trans ((Step.alloc HW.out.lt _).trans HS2.out)⟩

set_option maxRecDepth 100000 in
set_option maxHeartbeats 1000000 in
theorem write32_one (p : Nat) (full : Bool) (l : List UInt8) (w : World) (h : Wr w 56 5 [.bool full] p l) (s : ByteArray) (r : Int) (d : Nat) (hr : I64 r) (hd : U64 d) (hl : Short (40 + s.size) l) (q : Nat) (hq : w.cell? ⟨q, 0, none⟩ = some (.pointer (some ⟨p, 0, none⟩))) (ha : Apart p w q) (b c : Nat) (hc0 : w.cell? ⟨b, 0, none⟩ = some (.string s)) (hc1 : w.cell? ⟨b, 1, none⟩ = some (.int .i64 r)) (hc2 : w.cell? ⟨b, 2, none⟩ = some (.int .u64 d)) (hb : Apart p w b) :
    Calls Tryz.prog 32 #[.pointer (some ⟨p, 0, none⟩), .slice (some ⟨b, 0, none⟩) 1 c, .func (.func 33) #[] #[.pointer (some ⟨q, 0, none⟩)]] w (WPost w 56 [.bool full] p (l ++ (enc 1 ++ (encS s.data.toList ++ (enc r ++ lb d))))) := by
  have H := Lib.hid h
  have HB := Lib.hid hb
  have HQ := Lib.hid ha
  clear h ha hb
  go_enter Tryz.func32, Tryz.ntmps32
  go_wp2_with fail
  refine (numbers_one p full _ l _ H.out (by decide) (hl.mono (by omega))).mono ?_
  rintro e w1 ⟨rfl, hW, hS⟩
  have hk1 := hS.cellA HB.out
  have hk2 := hS.cellA HQ.out
  have hq1 : w1.cell? ⟨q, 0, none⟩ = some (.pointer (some ⟨p, 0, none⟩)) := (hk2 0).trans hq
  have hx0 := (hk1 0).trans hc0
  have hx1 := (hk1 1).trans hc1
  have hx2 := (hk1 2).trans hc2
  have HQ1 := Lib.hid (hS.apart HQ.out)
  have HL := Lib.hid (hl.add (n := 1) (m := 40 + s.size - 10) (by decide) (by omega))
  have HW := Lib.hid hW
  have HS := Lib.hid hS
  have HQC := Lib.hid hq1
  clear hW hS hk1 hk2 hq1 hq hc0 hc1 hc2
  go_wp2_with fail
  refine wp_loop_rounds 2 ?_
  rw [rounds_succ]
  go_wp2_with fail
  refine (object2_any p full _ _ (HW.out.alloc _) s r d hr hd (HL.out.mono (by omega)) q (cell_alloc _ HQC.out) (HQ1.out.alloc HW.out.lt _)).mono ?_
  rintro e w2 ⟨rfl, hW2, hS2⟩
  have HW2 := Lib.hid hW2
  have HS2 := Lib.hid hS2
  clear hW2 hS2
  go_wp2_with fail
  rw [rounds_succ]
  go_wp2_with fail
  go_end0
  exact ⟨rfl, by simpa only [List.append_assoc] using HW2.out, HS.out.trans ((Step.alloc HW.out.lt _).trans HS2.out)⟩

end Go.Proofs.YtgliaafiompilabGreatDoor

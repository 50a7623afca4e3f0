/- The walks of the writer's lists, and of the parts of a module and of an object. -/
import Derived.Test.YtgliaafiompilabGreatDoorWc
namespace Go.Proofs.YtgliaafiompilabGreatDoor
open Go.RowKit Go.Lib

theorem encS_len {s : List UInt8} (h : I64 s.length) : (encS s).length ≤ 10 + s.length := by
  have := enc_len h
  unfold encS
  rw [List.length_append]
  omega

theorem Short.addS {s : ByteArray} {k m : Nat} {l : List UInt8} (h : Short k l) (hm : m + 10 + s.size ≤ k) : Short m (l ++ encS s.data.toList) := by
  have hs : s.data.toList.length = s.size := Array.length_toList
  have := encS_len (s := s.data.toList) (by rw [hs]; exact h.i64 (by omega))
  unfold Short at *
  rw [List.length_append]
  omega

set_option maxRecDepth 100000 in
set_option maxHeartbeats 1000000 in
theorem write26_nil (p : Nat) (full : Bool) (l : List UInt8) (w : World) (h : Wr w 56 5 [.bool full] p l) (hl : Short 10 l) (fn : Fn) (fa fb : Array Value) :
    Calls Tryz.prog 26 #[.pointer (some ⟨p, 0, none⟩), .slice none 0 0, .func fn fa fb] w (WPost w 56 [.bool full] p (l ++ enc 0)) := by
  have H := Lib.hid h
  clear h
  go_enter Tryz.func26, Tryz.ntmps26
  go_wp2_with fail
  refine (numbers_one p full _ l _ H.out (by decide) hl).mono ?_
  rintro e w1 ⟨rfl, hW, hS⟩
  have HW := Lib.hid hW
  have HS := Lib.hid hS
  clear hW hS
  go_wp2_with fail
  refine wp_loop_rounds 1 ?_
  rw [rounds_succ]
  go_wp2_with fail
  go_end0
  exact ⟨rfl, HW.out, HS.out⟩

set_option maxRecDepth 100000 in
set_option maxHeartbeats 1000000 in
theorem write28_nil (p : Nat) (full : Bool) (l : List UInt8) (w : World) (h : Wr w 56 5 [.bool full] p l) (hl : Short 10 l) (fn : Fn) (fa fb : Array Value) :
    Calls Tryz.prog 28 #[.pointer (some ⟨p, 0, none⟩), .slice none 0 0, .func fn fa fb] w (WPost w 56 [.bool full] p (l ++ enc 0)) := by
  have H := Lib.hid h
  clear h
  go_enter Tryz.func28, Tryz.ntmps28
  go_wp2_with fail
  refine (numbers_one p full _ l _ H.out (by decide) hl).mono ?_
  rintro e w1 ⟨rfl, hW, hS⟩
  have HW := Lib.hid hW
  have HS := Lib.hid hS
  clear hW hS
  go_wp2_with fail
  refine wp_loop_rounds 1 ?_
  rw [rounds_succ]
  go_wp2_with fail
  go_end0
  exact ⟨rfl, HW.out, HS.out⟩

set_option maxRecDepth 100000 in
set_option maxHeartbeats 1000000 in
theorem write81_nil (p : Nat) (full : Bool) (l : List UInt8) (w : World) (h : Wr w 56 5 [.bool full] p l) (hl : Short 10 l) (fn : Fn) (fa fb : Array Value) :
    Calls Tryz.prog 81 #[.pointer (some ⟨p, 0, none⟩), .slice none 0 0, .func fn fa fb] w (WPost w 56 [.bool full] p (l ++ enc 0)) := by
  have H := Lib.hid h
  clear h
  go_enter Tryz.func81, Tryz.ntmps81
  go_wp2_with fail
  refine (numbers_one p full _ l _ H.out (by decide) hl).mono ?_
  rintro e w1 ⟨rfl, hW, hS⟩
  have HW := Lib.hid hW
  have HS := Lib.hid hS
  clear hW hS
  go_wp2_with fail
  refine wp_loop_rounds 1 ?_
  rw [rounds_succ]
  go_wp2_with fail
  go_end0
  exact ⟨rfl, HW.out, HS.out⟩

set_option maxRecDepth 100000 in
set_option maxHeartbeats 1000000 in
theorem write83_nil (p : Nat) (full : Bool) (l : List UInt8) (w : World) (h : Wr w 56 5 [.bool full] p l) (hl : Short 10 l) (fn : Fn) (fa fb : Array Value) :
    Calls Tryz.prog 83 #[.pointer (some ⟨p, 0, none⟩), .slice none 0 0, .func fn fa fb] w (WPost w 56 [.bool full] p (l ++ enc 0)) := by
  have H := Lib.hid h
  clear h
  go_enter Tryz.func83, Tryz.ntmps83
  go_wp2_with fail
  refine (numbers_one p full _ l _ H.out (by decide) hl).mono ?_
  rintro e w1 ⟨rfl, hW, hS⟩
  have HW := Lib.hid hW
  have HS := Lib.hid hS
  clear hW hS
  go_wp2_with fail
  refine wp_loop_rounds 1 ?_
  rw [rounds_succ]
  go_wp2_with fail
  go_end0
  exact ⟨rfl, HW.out, HS.out⟩

set_option maxRecDepth 100000 in
set_option maxHeartbeats 1000000 in
theorem write88_nil (p : Nat) (full : Bool) (l : List UInt8) (w : World) (h : Wr w 56 5 [.bool full] p l) (hl : Short 10 l) (fn : Fn) (fa fb : Array Value) :
    Calls Tryz.prog 88 #[.pointer (some ⟨p, 0, none⟩), .slice none 0 0, .func fn fa fb] w (WPost w 56 [.bool full] p (l ++ enc 0)) := by
  have H := Lib.hid h
  clear h
  go_enter Tryz.func88, Tryz.ntmps88
  go_wp2_with fail
  refine (numbers_one p full _ l _ H.out (by decide) hl).mono ?_
  rintro e w1 ⟨rfl, hW, hS⟩
  have HW := Lib.hid hW
  have HS := Lib.hid hS
  clear hW hS
  go_wp2_with fail
  refine wp_loop_rounds 1 ?_
  rw [rounds_succ]
  go_wp2_with fail
  go_end0
  exact ⟨rfl, HW.out, HS.out⟩

set_option maxRecDepth 100000 in
set_option maxHeartbeats 1000000 in
theorem write92_nil (p : Nat) (full : Bool) (l : List UInt8) (w : World) (h : Wr w 56 5 [.bool full] p l) (hl : Short 10 l) (fn : Fn) (fa fb : Array Value) :
    Calls Tryz.prog 92 #[.pointer (some ⟨p, 0, none⟩), .slice none 0 0, .func fn fa fb] w (WPost w 56 [.bool full] p (l ++ enc 0)) := by
  have H := Lib.hid h
  clear h
  go_enter Tryz.func92, Tryz.ntmps92
  go_wp2_with fail
  refine (numbers_one p full _ l _ H.out (by decide) hl).mono ?_
  rintro e w1 ⟨rfl, hW, hS⟩
  have HW := Lib.hid hW
  have HS := Lib.hid hS
  clear hW hS
  go_wp2_with fail
  refine wp_loop_rounds 1 ?_
  rw [rounds_succ]
  go_wp2_with fail
  go_end0
  exact ⟨rfl, HW.out, HS.out⟩

set_option maxRecDepth 100000 in
set_option maxHeartbeats 1000000 in
theorem write98_nil (p : Nat) (full : Bool) (l : List UInt8) (w : World) (h : Wr w 56 5 [.bool full] p l) (hl : Short 10 l) (fn : Fn) (fa fb : Array Value) :
    Calls Tryz.prog 98 #[.pointer (some ⟨p, 0, none⟩), .slice none 0 0, .func fn fa fb] w (WPost w 56 [.bool full] p (l ++ enc 0)) := by
  have H := Lib.hid h
  clear h
  go_enter Tryz.func98, Tryz.ntmps98
  go_wp2_with fail
  refine (numbers_one p full _ l _ H.out (by decide) hl).mono ?_
  rintro e w1 ⟨rfl, hW, hS⟩
  have HW := Lib.hid hW
  have HS := Lib.hid hS
  clear hW hS
  go_wp2_with fail
  refine wp_loop_rounds 1 ?_
  rw [rounds_succ]
  go_wp2_with fail
  go_end0
  exact ⟨rfl, HW.out, HS.out⟩

set_option maxRecDepth 100000 in
set_option maxHeartbeats 1000000 in
theorem write183_nil (p : Nat) (full : Bool) (l : List UInt8) (w : World) (h : Wr w 56 5 [.bool full] p l) (hl : Short 10 l) (fn : Fn) (fa fb : Array Value) :
    Calls Tryz.prog 183 #[.pointer (some ⟨p, 0, none⟩), .slice none 0 0, .func fn fa fb] w (WPost w 56 [.bool full] p (l ++ enc 0)) := by
  have H := Lib.hid h
  clear h
  go_enter Tryz.func183, Tryz.ntmps183
  go_wp2_with fail
  refine (numbers_one p full _ l _ H.out (by decide) hl).mono ?_
  rintro e w1 ⟨rfl, hW, hS⟩
  have HW := Lib.hid hW
  have HS := Lib.hid hS
  clear hW hS
  go_wp2_with fail
  refine wp_loop_rounds 1 ?_
  rw [rounds_succ]
  go_wp2_with fail
  go_end0
  exact ⟨rfl, HW.out, HS.out⟩

set_option maxRecDepth 100000 in
set_option maxHeartbeats 1000000 in
theorem write75_nil (p : Nat) (full : Bool) (l : List UInt8) (w : World) (h : Wr w 56 5 [.bool full] p l) (hl : Short 10 l) (fn : Fn) (fa fb : Array Value) :
    Calls Tryz.prog 75 #[.pointer (some ⟨p, 0, none⟩), .slice none 0 0, .func fn fa fb] w (WPost w 56 [.bool full] p (l ++ enc 0)) := by
  have H := Lib.hid h
  clear h
  go_enter Tryz.func75, Tryz.ntmps75
  go_wp2_with fail
  refine (numbers_one p full _ l _ H.out (by decide) hl).mono ?_
  rintro e w1 ⟨rfl, hW, hS⟩
  have HW := Lib.hid hW
  have HS := Lib.hid hS
  clear hW hS
  go_wp2_with fail
  refine wp_loop_rounds 1 ?_
  rw [rounds_succ]
  go_wp2_with fail
  go_end0
  exact ⟨rfl, HW.out, HS.out⟩

set_option maxRecDepth 100000 in
set_option maxHeartbeats 1000000 in
theorem write77_nil (p : Nat) (full : Bool) (l : List UInt8) (w : World) (h : Wr w 56 5 [.bool full] p l) (hl : Short 10 l) (fn : Fn) (fa fb : Array Value) :
    Calls Tryz.prog 77 #[.pointer (some ⟨p, 0, none⟩), .slice none 0 0, .func fn fa fb] w (WPost w 56 [.bool full] p (l ++ enc 0)) := by
  have H := Lib.hid h
  clear h
  go_enter Tryz.func77, Tryz.ntmps77
  go_wp2_with fail
  refine (numbers_one p full _ l _ H.out (by decide) hl).mono ?_
  rintro e w1 ⟨rfl, hW, hS⟩
  have HW := Lib.hid hW
  have HS := Lib.hid hS
  clear hW hS
  go_wp2_with fail
  refine wp_loop_rounds 1 ?_
  rw [rounds_succ]
  go_wp2_with fail
  go_end0
  exact ⟨rfl, HW.out, HS.out⟩

set_option maxRecDepth 100000 in
set_option maxHeartbeats 1000000 in
theorem write32_nil (p : Nat) (full : Bool) (l : List UInt8) (w : World) (h : Wr w 56 5 [.bool full] p l) (hl : Short 10 l) (fn : Fn) (fa fb : Array Value) :
    Calls Tryz.prog 32 #[.pointer (some ⟨p, 0, none⟩), .slice none 0 0, .func fn fa fb] w (WPost w 56 [.bool full] p (l ++ enc 0)) := by
  have H := Lib.hid h
  clear h
  go_enter Tryz.func32, Tryz.ntmps32
  go_wp2_with fail
  refine (numbers_one p full _ l _ H.out (by decide) hl).mono ?_
  rintro e w1 ⟨rfl, hW, hS⟩
  have HW := Lib.hid hW
  have HS := Lib.hid hS
  clear hW hS
  go_wp2_with fail
  refine wp_loop_rounds 1 ?_
  rw [rounds_succ]
  go_wp2_with fail
  go_end0
  exact ⟨rfl, HW.out, HS.out⟩

set_option maxRecDepth 100000 in
set_option maxHeartbeats 1000000 in
theorem texts_nil (p : Nat) (full : Bool) (l : List UInt8) (w : World) (h : Wr w 56 5 [.bool full] p l) (hl : Short 10 l) :
    Calls Tryz.prog 80 #[.pointer (some ⟨p, 0, none⟩), .slice none 0 0] w (WPost w 56 [.bool full] p (l ++ enc 0)) := by
  have H := Lib.hid h
  clear h
  have hmf : ∀ (fn : Fn) (first cap : Array Value) (w : World), (Instr.makeFunc fn first cap).run Tryz.prog w = .ok (.func fn first cap) w := fun _ _ _ _ => rfl
  go_enter Tryz.func80, Tryz.ntmps80
  go_wp2_with fail
  refine (write183_nil p full l _ H.out hl _ _ _).mono ?_
  rintro e w1 ⟨rfl, hW, hS⟩
  have HW := Lib.hid hW
  have HS := Lib.hid hS
  clear hW hS
  go_wp2_with fail
  go_end0
  exact ⟨rfl, HW.out, HS.out⟩

set_option maxRecDepth 100000 in
set_option maxHeartbeats 1000000 in
theorem module1_any (p : Nat) (full : Bool) (l : List UInt8) (w : World) (h : Wr w 56 5 [.bool full] p l) (s : ByteArray) (r : Int) (hr : I64 r) (hl : Short (20 + s.size) l) (q : Nat) (hq : w.cell? ⟨q, 0, none⟩ = some (.pointer (some ⟨p, 0, none⟩))) (ha : Apart p w q) :
    Calls Tryz.prog 76 #[.agg #[.string s, .int .i64 r], .pointer (some ⟨q, 0, none⟩)] w (WPost w 56 [.bool full] p (l ++ (encS s.data.toList ++ enc r))) := by
  have H := Lib.hid h
  have HB := Lib.hid (h.apart (.cells #[.string s, .int .i64 r] 25))
  have HQ := Lib.hid (ha.alloc h.lt (.cells #[.string s, .int .i64 r] 25))
  have hqs := ha.1
  clear h ha
  go_enter Tryz.func76, Tryz.ntmps76
  go_wp2_with fail
  refine (text_any p full s l _ (H.out.alloc _) (hl.mono (by omega))).mono ?_
  rintro e w1 ⟨rfl, hW, hS⟩
  have hk1 := hS.cellA HB.out
  have hk2 := hS.cellA HQ.out
  have HW := Lib.hid hW
  have HS := Lib.hid hS
  clear hW hS
  go_wp2_with fail
  refine (numbers_one p full r _ _ HW.out hr (hl.addS (by omega))).mono ?_
  rintro e w2 ⟨rfl, hW2, hS2⟩
  have HW2 := Lib.hid hW2
  have HS2 := Lib.hid hS2
  clear hW2 hS2
  go_wp2_with fail
  go_end0
  exact ⟨rfl, by rw [← List.append_assoc]; exact HW2.out, (Step.alloc H.out.lt _).trans (HS.out.trans HS2.out)⟩

end Go.Proofs.YtgliaafiompilabGreatDoor

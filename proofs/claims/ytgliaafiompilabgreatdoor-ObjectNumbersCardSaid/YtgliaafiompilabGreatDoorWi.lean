/- The walks of what says whether an object is valid. -/
import Derived.Test.YtgliaafiompilabGreatDoorWh
import Derived.Deep.QuietTactic
import Derived.BigQuiet
namespace Go.Proofs.YtgliaafiompilabGreatDoor
open Go.RowKit Go.Lib

/-- A call returns v, and nothing that was there has changed. -/
def RPost (w : World) (v : Value) (e : Ending) (w' : World) : Prop := e = .returned v ∧ Below w.heap.size w w'

set_option maxRecDepth 100000 in
set_option maxHeartbeats 1000000 in
theorem index162_nil (w : World) (fv : Value) :
    Calls Tryz.prog 162 #[.slice none 0 0, fv] w (RPost w (.int .i64 (-1))) := by
  go_enter Tryz.func162, Tryz.ntmps162
  go_wp2_with fail
  refine wp_loop_rounds 1 ?_
  rw [rounds_succ]
  go_wp2_with fail
  go_ret
  exact ⟨rfl, Below.refl _ _⟩

set_option maxRecDepth 100000 in
set_option maxHeartbeats 1000000 in
theorem contains61_nil (w : World) (fv : Value) :
    Calls Tryz.prog 61 #[.slice none 0 0, fv] w (RPost w (.bool false)) := by
  go_enter Tryz.func61, Tryz.ntmps61
  go_wp2_with fail
  refine (index162_nil _ _).mono ?_
  rintro e w1 ⟨rfl, hb⟩
  have HB := Lib.hid hb
  clear hb
  go_wp2_with fail
  go_ret
  exact ⟨rfl, HB.out⟩

set_option maxRecDepth 100000 in
set_option maxHeartbeats 1000000 in
theorem isSkel1 (w : World) (name : ByteArray) (rel : Int) (a1 a2 : Option Addr) (n1 c1 n2 c2 : Nat) :
    Calls Tryz.prog 21 #[.agg #[.int .i64 1, .string name, .int .i64 rel, .slice a1 n1 c1, .slice a2 n2 c2, .slice none 0 0, .slice none 0 0, .slice none 0 0, .slice none 0 0]] w (RPost w (.bool true)) := by
  go_enter Tryz.func21, Tryz.ntmps21
  go_wp2_with fail
  refine (contains61_nil _ _).mono ?_
  rintro e w1 ⟨rfl, hb⟩
  have HB := Lib.hid ((Below.refl w.heap.size w).alloc (Nat.le_refl _) (.cells #[.int .i64 1, .string name, .int .i64 rel, .slice a1 n1 c1, .slice a2 n2 c2, .slice none 0 0, .slice none 0 0, .slice none 0 0, .slice none 0 0] 37) |>.trans (hb.mono (by simp)))
  clear hb
  go_wp2_with fail
  go_ret
  exact ⟨rfl, HB.out⟩

set_option maxRecDepth 100000 in
set_option maxHeartbeats 1000000 in
theorem oisSkel1 (w : World) (name : ByteArray) (rel : Int) (a1 a2 : Option Addr) (n1 c1 n2 c2 : Nat) :
    Calls Tryz.prog 36 #[.agg #[.int .i64 1, .string name, .int .i64 rel, .slice a1 n1 c1, .slice a2 n2 c2, .slice none 0 0, .slice none 0 0, .slice none 0 0, .slice none 0 0]] w (RPost w (.bool true)) := by
  go_enter Tryz.func36, Tryz.ntmps36
  go_wp2_with fail
  refine wp_loop_rounds 1 ?_
  rw [rounds_succ]
  go_wp2_with fail
  go_ret
  exact ⟨rfl, (Below.refl _ _).alloc (Nat.le_refl _) _⟩

set_option maxRecDepth 100000 in
set_option maxHeartbeats 1000000 in
theorem isSkel2 (w : World) (name : ByteArray) (rel : Int) (a1 a2 : Option Addr) (n1 c1 n2 c2 : Nat) :
    Calls Tryz.prog 21 #[.agg #[.int .i64 2, .string name, .int .i64 rel, .slice a1 n1 c1, .slice a2 n2 c2, .slice none 0 0, .slice none 0 0, .slice none 0 0, .slice none 0 0]] w (RPost w (.bool true)) := by
  go_enter Tryz.func21, Tryz.ntmps21
  go_wp2_with fail
  refine (contains61_nil _ _).mono ?_
  rintro e w1 ⟨rfl, hb⟩
  have HB := Lib.hid ((Below.refl w.heap.size w).alloc (Nat.le_refl _) (.cells #[.int .i64 2, .string name, .int .i64 rel, .slice a1 n1 c1, .slice a2 n2 c2, .slice none 0 0, .slice none 0 0, .slice none 0 0, .slice none 0 0] 37) |>.trans (hb.mono (by simp)))
  clear hb
  go_wp2_with fail
  go_ret
  exact ⟨rfl, HB.out⟩

set_option maxRecDepth 100000 in
set_option maxHeartbeats 1000000 in
theorem oisSkel2 (w : World) (name : ByteArray) (rel : Int) (a1 a2 : Option Addr) (n1 c1 n2 c2 : Nat) :
    Calls Tryz.prog 36 #[.agg #[.int .i64 2, .string name, .int .i64 rel, .slice a1 n1 c1, .slice a2 n2 c2, .slice none 0 0, .slice none 0 0, .slice none 0 0, .slice none 0 0]] w (RPost w (.bool true)) := by
  go_enter Tryz.func36, Tryz.ntmps36
  go_wp2_with fail
  refine wp_loop_rounds 1 ?_
  rw [rounds_succ]
  go_wp2_with fail
  go_ret
  exact ⟨rfl, (Below.refl _ _).alloc (Nat.le_refl _) _⟩

end Go.Proofs.YtgliaafiompilabGreatDoor

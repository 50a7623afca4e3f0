/- The walks of the reader's lists, and of the parts of a module and of an object. -/
import Derived.Test.YtgliaafiompilabGreatDoorRb
import Derived.Deep.RegionHeld3
namespace Go.Proofs.YtgliaafiompilabGreatDoor
open Go.RowKit Go.Lib

theorem FStep.setNew {p : Nat} {w x : World} (h : FStep p w x) {a : Addr} (ha : w.heap.size ≤ a.block) (v : Value) : FStep p w (x.setCell a v) :=
  ⟨h.os, h.tape, h.output, by simpa [World.setCell] using h.size, fun k hk hp => (Below.heap_setCell _ _ _ _ (by omega)).trans (h.block k hk hp)⟩
theorem FStep.froz {p : Nat} {w w' : World} (h : FStep p w w') {k : Nat} (hk : k < w.heap.size) (hp : k ≠ p) : ∀ o, w'.frozen? ⟨k, o, none⟩ = w.frozen? ⟨k, o, none⟩ :=
  fun o => World.frozen?_of_block (w := w) (a := ⟨k, o, none⟩) (h.block k hk hp)
theorem FStep.drewN {p : Nat} {w x : World} (h : FStep p w x) (n : Nat) : FStep p w (x.drewN n) := ⟨h.os, h.tape, h.output, h.size, h.block⟩

theorem keep_set {x : World} {B q o : Nat} {u v : Value} (hb : B ≠ q) (h : x.cell? ⟨q, 0, none⟩ = some v) : (x.setCell ⟨B, o, none⟩ u).cell? ⟨q, 0, none⟩ = some v := by
  rw [World.cell?_of_block (w := x) (a := ⟨q, 0, none⟩) (Below.heap_setCell _ _ _ _ (Ne.symm hb))]; exact h

theorem heap_set {w : World} {k : Nat} {cs : Array Value} {T : TypeId} {mk : Nat × Nat} (h : w.heap[k]? = some (.cells cs T mk)) (o : Nat) (v : Value) :
    (w.setCell ⟨k, o, none⟩ v).heap[k]? = some (.cells (cs.setIfInBounds o v) T mk) := by
  simp only [World.setCell, Array.getElem?_modify, h]
  simp

theorem cell_at {w : World} {k : Nat} {cs : Array Value} {T : TypeId} {mk : Nat × Nat} (h : w.heap[k]? = some (.cells cs T mk)) (o : Nat) : w.cell? ⟨k, o, none⟩ = cs[o]? := cell_of_row w k o cs T mk h

theorem fin2 {w : World} {B : Nat} {T : TypeId} {x0 x1 : Value} (h : w.heap[B]? = some (.cells #[x0, x1] T (0, 0))) (v0 v1 : Value) :
    ((w.setCell ⟨B, 0, none⟩ v0).setCell ⟨B, 1, none⟩ v1).heap[B]? = some (.cells #[v0, v1] T (0, 0)) := by
  have := heap_set (heap_set h 0 v0) 1 v1
  simpa using this

theorem fin3 {w : World} {B : Nat} {T : TypeId} {x0 x1 x2 : Value} (h : w.heap[B]? = some (.cells #[x0, x1, x2] T (0, 0))) (v0 v1 v2 : Value) :
    (((w.setCell ⟨B, 0, none⟩ v0).setCell ⟨B, 1, none⟩ v1).setCell ⟨B, 2, none⟩ v2).heap[B]? = some (.cells #[v0, v1, v2] T (0, 0)) := by
  have := heap_set (heap_set (heap_set h 0 v0) 1 v1) 2 v2
  simpa using this

theorem fin6 {w : World} {B : Nat} {T : TypeId} {x0 x1 x2 x3 x4 x5 : Value} (h : w.heap[B]? = some (.cells #[x0, x1, x2, x3, x4, x5] T (0, 0))) (v0 v1 v2 v3 v4 v5 : Value) :
    ((((((w.setCell ⟨B, 0, none⟩ v0).setCell ⟨B, 1, none⟩ v1).setCell ⟨B, 2, none⟩ v2).setCell ⟨B, 3, none⟩ v3).setCell ⟨B, 4, none⟩ v4).setCell ⟨B, 5, none⟩ v5).heap[B]? = some (.cells #[v0, v1, v2, v3, v4, v5] T (0, 0)) := by
  have := heap_set (heap_set (heap_set (heap_set (heap_set (heap_set h 0 v0) 1 v1) 2 v2) 3 v3) 4 v4) 5 v5
  simpa using this

theorem fin9 {w : World} {B : Nat} {T : TypeId} {x0 x1 x2 x3 x4 x5 x6 x7 x8 : Value} (h : w.heap[B]? = some (.cells #[x0, x1, x2, x3, x4, x5, x6, x7, x8] T (0, 0))) (v0 v1 v2 v3 v4 v5 v6 v7 v8 : Value) :
    (((((((((w.setCell ⟨B, 0, none⟩ v0).setCell ⟨B, 1, none⟩ v1).setCell ⟨B, 2, none⟩ v2).setCell ⟨B, 3, none⟩ v3).setCell ⟨B, 4, none⟩ v4).setCell ⟨B, 5, none⟩ v5).setCell ⟨B, 6, none⟩ v6).setCell ⟨B, 7, none⟩ v7).setCell ⟨B, 8, none⟩ v8).heap[B]? = some (.cells #[v0, v1, v2, v3, v4, v5, v6, v7, v8] T (0, 0)) := by
  have := heap_set (heap_set (heap_set (heap_set (heap_set (heap_set (heap_set (heap_set (heap_set h 0 v0) 1 v1) 2 v2) 3 v3) 4 v4) 5 v5) 6 v6) 7 v7) 8 v8
  simpa using this

set_option maxRecDepth 100000 in
set_option maxHeartbeats 2000000 in
theorem read200_nil (w : World) (p : Nat) (full : Bool) (l : List UInt8) (g off c : Nat) (h : Rr w p full (enc 0 ++ l) g off c) (fn : Fn) (fa fb : Array Value) :
    Calls Tryz.prog 200 #[.pointer (some ⟨p, 0, none⟩), .func fn fa fb] w (NPost w p full (.slice none 0 0) l g) := by
  have hc0 := h.cell0
  have hz : (enc 0 ++ l).length = (enc 0).length + l.length := List.length_append
  rw [hz] at hc0
  have H := Lib.hid h
  clear h hz
  go_enter Tryz.func200, Tryz.ntmps200
  go_wp2_with fail
  refine (within_any w p full 0 _ _ (by decide) (by decide) (by omega) l g off c H.out).mono ?_
  rintro e w1 ⟨rfl, hR, hF⟩
  have HR := Lib.hid hR
  have HF := Lib.hid hF
  clear hR hF
  go_wp2_with fail
  refine wp_loop_rounds 1 ?_
  rw [rounds_succ]
  go_wp2_with fail
  go_ret
  exact ⟨rfl, HR.out, HF.out⟩

set_option maxRecDepth 100000 in
set_option maxHeartbeats 2000000 in
theorem read129_nil (w : World) (p : Nat) (full : Bool) (l : List UInt8) (g off c : Nat) (h : Rr w p full (enc 0 ++ l) g off c) (fn : Fn) (fa fb : Array Value) :
    Calls Tryz.prog 129 #[.pointer (some ⟨p, 0, none⟩), .func fn fa fb] w (NPost w p full (.slice none 0 0) l g) := by
  have hc0 := h.cell0
  have hz : (enc 0 ++ l).length = (enc 0).length + l.length := List.length_append
  rw [hz] at hc0
  have H := Lib.hid h
  clear h hz
  go_enter Tryz.func129, Tryz.ntmps129
  go_wp2_with fail
  refine (within_any w p full 0 _ _ (by decide) (by decide) (by omega) l g off c H.out).mono ?_
  rintro e w1 ⟨rfl, hR, hF⟩
  have HR := Lib.hid hR
  have HF := Lib.hid hF
  clear hR hF
  go_wp2_with fail
  refine wp_loop_rounds 1 ?_
  rw [rounds_succ]
  go_wp2_with fail
  go_ret
  exact ⟨rfl, HR.out, HF.out⟩

set_option maxRecDepth 100000 in
set_option maxHeartbeats 2000000 in
theorem read131_nil (w : World) (p : Nat) (full : Bool) (l : List UInt8) (g off c : Nat) (h : Rr w p full (enc 0 ++ l) g off c) (fn : Fn) (fa fb : Array Value) :
    Calls Tryz.prog 131 #[.pointer (some ⟨p, 0, none⟩), .func fn fa fb] w (NPost w p full (.slice none 0 0) l g) := by
  have hc0 := h.cell0
  have hz : (enc 0 ++ l).length = (enc 0).length + l.length := List.length_append
  rw [hz] at hc0
  have H := Lib.hid h
  clear h hz
  go_enter Tryz.func131, Tryz.ntmps131
  go_wp2_with fail
  refine (within_any w p full 0 _ _ (by decide) (by decide) (by omega) l g off c H.out).mono ?_
  rintro e w1 ⟨rfl, hR, hF⟩
  have HR := Lib.hid hR
  have HF := Lib.hid hF
  clear hR hF
  go_wp2_with fail
  refine wp_loop_rounds 1 ?_
  rw [rounds_succ]
  go_wp2_with fail
  go_ret
  exact ⟨rfl, HR.out, HF.out⟩

set_option maxRecDepth 100000 in
set_option maxHeartbeats 2000000 in
theorem read136_nil (w : World) (p : Nat) (full : Bool) (l : List UInt8) (g off c : Nat) (h : Rr w p full (enc 0 ++ l) g off c) (fn : Fn) (fa fb : Array Value) :
    Calls Tryz.prog 136 #[.pointer (some ⟨p, 0, none⟩), .func fn fa fb] w (NPost w p full (.slice none 0 0) l g) := by
  have hc0 := h.cell0
  have hz : (enc 0 ++ l).length = (enc 0).length + l.length := List.length_append
  rw [hz] at hc0
  have H := Lib.hid h
  clear h hz
  go_enter Tryz.func136, Tryz.ntmps136
  go_wp2_with fail
  refine (within_any w p full 0 _ _ (by decide) (by decide) (by omega) l g off c H.out).mono ?_
  rintro e w1 ⟨rfl, hR, hF⟩
  have HR := Lib.hid hR
  have HF := Lib.hid hF
  clear hR hF
  go_wp2_with fail
  refine wp_loop_rounds 1 ?_
  rw [rounds_succ]
  go_wp2_with fail
  go_ret
  exact ⟨rfl, HR.out, HF.out⟩

set_option maxRecDepth 100000 in
set_option maxHeartbeats 2000000 in
theorem read140_nil (w : World) (p : Nat) (full : Bool) (l : List UInt8) (g off c : Nat) (h : Rr w p full (enc 0 ++ l) g off c) (fn : Fn) (fa fb : Array Value) :
    Calls Tryz.prog 140 #[.pointer (some ⟨p, 0, none⟩), .func fn fa fb] w (NPost w p full (.slice none 0 0) l g) := by
  have hc0 := h.cell0
  have hz : (enc 0 ++ l).length = (enc 0).length + l.length := List.length_append
  rw [hz] at hc0
  have H := Lib.hid h
  clear h hz
  go_enter Tryz.func140, Tryz.ntmps140
  go_wp2_with fail
  refine (within_any w p full 0 _ _ (by decide) (by decide) (by omega) l g off c H.out).mono ?_
  rintro e w1 ⟨rfl, hR, hF⟩
  have HR := Lib.hid hR
  have HF := Lib.hid hF
  clear hR hF
  go_wp2_with fail
  refine wp_loop_rounds 1 ?_
  rw [rounds_succ]
  go_wp2_with fail
  go_ret
  exact ⟨rfl, HR.out, HF.out⟩

set_option maxRecDepth 100000 in
set_option maxHeartbeats 2000000 in
theorem read146_nil (w : World) (p : Nat) (full : Bool) (l : List UInt8) (g off c : Nat) (h : Rr w p full (enc 0 ++ l) g off c) (fn : Fn) (fa fb : Array Value) :
    Calls Tryz.prog 146 #[.pointer (some ⟨p, 0, none⟩), .func fn fa fb] w (NPost w p full (.slice none 0 0) l g) := by
  have hc0 := h.cell0
  have hz : (enc 0 ++ l).length = (enc 0).length + l.length := List.length_append
  rw [hz] at hc0
  have H := Lib.hid h
  clear h hz
  go_enter Tryz.func146, Tryz.ntmps146
  go_wp2_with fail
  refine (within_any w p full 0 _ _ (by decide) (by decide) (by omega) l g off c H.out).mono ?_
  rintro e w1 ⟨rfl, hR, hF⟩
  have HR := Lib.hid hR
  have HF := Lib.hid hF
  clear hR hF
  go_wp2_with fail
  refine wp_loop_rounds 1 ?_
  rw [rounds_succ]
  go_wp2_with fail
  go_ret
  exact ⟨rfl, HR.out, HF.out⟩

set_option maxRecDepth 100000 in
set_option maxHeartbeats 2000000 in
theorem read50_nil (w : World) (p : Nat) (full : Bool) (l : List UInt8) (g off c : Nat) (h : Rr w p full (enc 0 ++ l) g off c) (fn : Fn) (fa fb : Array Value) :
    Calls Tryz.prog 50 #[.pointer (some ⟨p, 0, none⟩), .func fn fa fb] w (NPost w p full (.slice none 0 0) l g) := by
  have hc0 := h.cell0
  have hz : (enc 0 ++ l).length = (enc 0).length + l.length := List.length_append
  rw [hz] at hc0
  have H := Lib.hid h
  clear h hz
  go_enter Tryz.func50, Tryz.ntmps50
  go_wp2_with fail
  refine (within_any w p full 0 _ _ (by decide) (by decide) (by omega) l g off c H.out).mono ?_
  rintro e w1 ⟨rfl, hR, hF⟩
  have HR := Lib.hid hR
  have HF := Lib.hid hF
  clear hR hF
  go_wp2_with fail
  refine wp_loop_rounds 1 ?_
  rw [rounds_succ]
  go_wp2_with fail
  go_ret
  exact ⟨rfl, HR.out, HF.out⟩

set_option maxRecDepth 100000 in
set_option maxHeartbeats 2000000 in
theorem read52_nil (w : World) (p : Nat) (full : Bool) (l : List UInt8) (g off c : Nat) (h : Rr w p full (enc 0 ++ l) g off c) (fn : Fn) (fa fb : Array Value) :
    Calls Tryz.prog 52 #[.pointer (some ⟨p, 0, none⟩), .func fn fa fb] w (NPost w p full (.slice none 0 0) l g) := by
  have hc0 := h.cell0
  have hz : (enc 0 ++ l).length = (enc 0).length + l.length := List.length_append
  rw [hz] at hc0
  have H := Lib.hid h
  clear h hz
  go_enter Tryz.func52, Tryz.ntmps52
  go_wp2_with fail
  refine (within_any w p full 0 _ _ (by decide) (by decide) (by omega) l g off c H.out).mono ?_
  rintro e w1 ⟨rfl, hR, hF⟩
  have HR := Lib.hid hR
  have HF := Lib.hid hF
  clear hR hF
  go_wp2_with fail
  refine wp_loop_rounds 1 ?_
  rw [rounds_succ]
  go_wp2_with fail
  go_ret
  exact ⟨rfl, HR.out, HF.out⟩

set_option maxRecDepth 100000 in
set_option maxHeartbeats 2000000 in
theorem read123_nil (w : World) (p : Nat) (full : Bool) (l : List UInt8) (g off c : Nat) (h : Rr w p full (enc 0 ++ l) g off c) (fn : Fn) (fa fb : Array Value) :
    Calls Tryz.prog 123 #[.pointer (some ⟨p, 0, none⟩), .func fn fa fb] w (NPost w p full (.slice none 0 0) l g) := by
  have hc0 := h.cell0
  have hz : (enc 0 ++ l).length = (enc 0).length + l.length := List.length_append
  rw [hz] at hc0
  have H := Lib.hid h
  clear h hz
  go_enter Tryz.func123, Tryz.ntmps123
  go_wp2_with fail
  refine (within_any w p full 0 _ _ (by decide) (by decide) (by omega) l g off c H.out).mono ?_
  rintro e w1 ⟨rfl, hR, hF⟩
  have HR := Lib.hid hR
  have HF := Lib.hid hF
  clear hR hF
  go_wp2_with fail
  refine wp_loop_rounds 1 ?_
  rw [rounds_succ]
  go_wp2_with fail
  go_ret
  exact ⟨rfl, HR.out, HF.out⟩

set_option maxRecDepth 100000 in
set_option maxHeartbeats 2000000 in
theorem read125_nil (w : World) (p : Nat) (full : Bool) (l : List UInt8) (g off c : Nat) (h : Rr w p full (enc 0 ++ l) g off c) (fn : Fn) (fa fb : Array Value) :
    Calls Tryz.prog 125 #[.pointer (some ⟨p, 0, none⟩), .func fn fa fb] w (NPost w p full (.slice none 0 0) l g) := by
  have hc0 := h.cell0
  have hz : (enc 0 ++ l).length = (enc 0).length + l.length := List.length_append
  rw [hz] at hc0
  have H := Lib.hid h
  clear h hz
  go_enter Tryz.func125, Tryz.ntmps125
  go_wp2_with fail
  refine (within_any w p full 0 _ _ (by decide) (by decide) (by omega) l g off c H.out).mono ?_
  rintro e w1 ⟨rfl, hR, hF⟩
  have HR := Lib.hid hR
  have HF := Lib.hid hF
  clear hR hF
  go_wp2_with fail
  refine wp_loop_rounds 1 ?_
  rw [rounds_succ]
  go_wp2_with fail
  go_ret
  exact ⟨rfl, HR.out, HF.out⟩

set_option maxRecDepth 100000 in
set_option maxHeartbeats 2000000 in
theorem read56_nil (w : World) (p : Nat) (full : Bool) (l : List UInt8) (g off c : Nat) (h : Rr w p full (enc 0 ++ l) g off c) (fn : Fn) (fa fb : Array Value) :
    Calls Tryz.prog 56 #[.pointer (some ⟨p, 0, none⟩), .func fn fa fb] w (NPost w p full (.slice none 0 0) l g) := by
  have hc0 := h.cell0
  have hz : (enc 0 ++ l).length = (enc 0).length + l.length := List.length_append
  rw [hz] at hc0
  have H := Lib.hid h
  clear h hz
  go_enter Tryz.func56, Tryz.ntmps56
  go_wp2_with fail
  refine (within_any w p full 0 _ _ (by decide) (by decide) (by omega) l g off c H.out).mono ?_
  rintro e w1 ⟨rfl, hR, hF⟩
  have HR := Lib.hid hR
  have HF := Lib.hid hF
  clear hR hF
  go_wp2_with fail
  refine wp_loop_rounds 1 ?_
  rw [rounds_succ]
  go_wp2_with fail
  go_ret
  exact ⟨rfl, HR.out, HF.out⟩

set_option maxRecDepth 100000 in
set_option maxHeartbeats 2000000 in
theorem rtexts_nil (w : World) (p : Nat) (full : Bool) (l : List UInt8) (g off c : Nat) (h : Rr w p full (enc 0 ++ l) g off c) :
    Calls Tryz.prog 128 #[.pointer (some ⟨p, 0, none⟩)] w (NPost w p full (.slice none 0 0) l g) := by
  have H := Lib.hid h
  clear h
  have hmf : ∀ (fn : Fn) (first cap : Array Value) (w : World), (Instr.makeFunc fn first cap).run Tryz.prog w = .ok (.func fn first cap) w := fun _ _ _ _ => rfl
  go_enter Tryz.func128, Tryz.ntmps128
  go_wp2_with fail
  refine (read200_nil w p full l g off c H.out _ _ _).mono ?_
  rintro e w1 ⟨rfl, hR, hF⟩
  have HR := Lib.hid hR
  have HF := Lib.hid hF
  clear hR hF
  go_wp2_with fail
  go_ret
  exact ⟨rfl, HR.out, HF.out⟩

theorem fst5_6 {w : World} {B : Nat} {T : TypeId} {x0 x1 x2 x3 x4 x5 : Value} (h : w.heap[B]? = some (.cells #[x0, x1, x2, x3, x4, x5] T (0, 0))) (v0 v1 v2 v3 v4 : Value) :
    (((((w.setCell ⟨B, 0, none⟩ v0).setCell ⟨B, 1, none⟩ v1).setCell ⟨B, 2, none⟩ v2).setCell ⟨B, 3, none⟩ v3).setCell ⟨B, 4, none⟩ v4).heap[B]? = some (.cells #[v0, v1, v2, v3, v4, x5] T (0, 0)) := by
  have := heap_set (heap_set (heap_set (heap_set (heap_set h 0 v0) 1 v1) 2 v2) 3 v3) 4 v4
  simpa using this

theorem fstl_6 {w : World} {B : Nat} {T : TypeId} {x0 x1 x2 x3 x4 x5 : Value} (h : w.heap[B]? = some (.cells #[x0, x1, x2, x3, x4, x5] T (0, 0))) (v : Value) :
    (w.setCell ⟨B, 5, none⟩ v).heap[B]? = some (.cells #[x0, x1, x2, x3, x4, v] T (0, 0)) := by
  have := heap_set h 5 v
  simpa using this

set_option maxRecDepth 100000 in
set_option maxHeartbeats 2000000 in
theorem rmodule1_any (w : World) (p : Nat) (full : Bool) (l : List UInt8) (g off c : Nat) (s : ByteArray) (hs : I64 (s.size : Int)) (r : Int) (hr : I64 r) (h : Rr w p full (encS s.data.toList ++ (enc r ++ l)) g off c) (q : Nat) (hq : w.cell? ⟨q, 0, none⟩ = some (.pointer (some ⟨p, 0, none⟩))) (hqp : q ≠ p) :
    Calls Tryz.prog 124 #[.pointer (some ⟨q, 0, none⟩)] w (NPost w p full (.agg #[.string s, .int .i64 r]) l g) := by
  have H := Lib.hid h
  have HR0 := Lib.hid (h.alloc (.cells #[.string ⟨#[]⟩, .int .i64 0] 25)).drew
  have hqs : q < w.heap.size := World.block_lt_of_cell? w _ hq
  have hpl := h.lt
  have hpB : w.heap.size ≠ p := by omega
  have hBq : w.heap.size ≠ q := by omega
  have hgB : w.heap.size ≠ g := by have := h.2.2.2.2.1; omega
  have HF0 := Lib.hid (FStep.refl p (w.alloc (.cells #[.string ⟨#[]⟩, .int .i64 0] 25)).drew)
  have hq0 : (w.alloc (.cells #[.string ⟨#[]⟩, .int .i64 0] 25)).drew.cell? ⟨q, 0, none⟩ = some (.pointer (some ⟨p, 0, none⟩)) := cell_alloc _ hq
  have HQ := Lib.hid hq0
  have hmf : ∀ (fn : Fn) (first cap : Array Value) (w : World), (Instr.makeFunc fn first cap).run Tryz.prog w = .ok (.func fn first cap) w := fun _ _ _ _ => rfl
  clear h hq0
  go_enter Tryz.func124, Tryz.ntmps124
  go_wp2_with fail
  go_region_held3 (fun w' => w'.cell? ⟨q, 0, none⟩ = some (.pointer (some ⟨p, 0, none⟩))) (first | (with_reducible exact HQ.out) | (with_reducible exact hqx1) | (with_reducible exact hqx2) | ((repeat (with_reducible refine keep_set hBq ?_)); with_reducible exact hqx2))
    (first
      | (go_at_call 58; refine (rtext_any _ p full s hs _ g off c HR0.out).mono ?_; rintro e w1 ⟨rfl, ⟨o1, c1, hR⟩, hF⟩; have HF1 := Lib.hid (HF0.out.trans hF); have hqx1 := (HF1.out.cell (k := q) (by simp; omega) hqp 0).trans HQ.out; have HR1 := Lib.hid hR; clear hR hF HR0; have hk1 := HF1.out.cell (k := w.heap.size) (by simp) hpB; have hm1 := HF1.out.froz (k := w.heap.size) (by simp) hpB; have hsz1 : w.heap.size < w1.heap.size := by have := HF1.out.size; simp at this; omega)
      | (go_at_call 59; refine (rint_any _ p full r hr _ g o1 c1 HR1.out).mono ?_; rintro e w2 ⟨rfl, ⟨o2, c2, hR⟩, hF⟩; have HF2 := Lib.hid (HF1.out.trans hF); have hqx2 := (HF2.out.cell (k := q) (by simp; omega) hqp 0).trans HQ.out; have HR2 := Lib.hid hR; clear hR hF HR1 hk1 hm1 hqx1 hsz1; have hk2 := HF2.out.cell (k := w.heap.size) (by simp) hpB; have hm2 := HF2.out.froz (k := w.heap.size) (by simp) hpB; have hsz2 : w.heap.size < w2.heap.size := by have := HF2.out.size; simp at this; omega))
  go_wp2_with fail
  have hB := fin2 (fin2 ((HF2.out.block w.heap.size (by simp) hpB).trans (heap_alloc_new w _)) (.string s) (.int .i64 r)) (.string s) (.int .i64 r)
  have f0 := cell_at hB 0
  have f1 := cell_at hB 1
  simp only [List.getElem?_toArray, List.getElem?_cons_zero, List.getElem?_cons_succ] at f0 f1
  exact bodyPost_ret (v := .agg #[.string s, .int .i64 r]) (by simp [results, Tryz.results124, go_sem, f0, f1]) rfl ⟨rfl, ⟨_, _, ((((HR2.out).setCell _ _ hpB hgB).setCell _ _ hpB hgB).setCell _ _ hpB hgB).setCell _ _ hpB hgB⟩, (((((((FStep.alloc p w (.cells #[.string ⟨#[]⟩, .int .i64 0] 25)).trans (FStep.drew p _)).trans HF2.out)).setNew (Nat.le_refl _) _).setNew (Nat.le_refl _) _).setNew (Nat.le_refl _) _).setNew (Nat.le_refl _) _⟩

set_option maxRecDepth 100000 in
set_option maxHeartbeats 2000000 in
theorem robject2_any (w : World) (p : Nat) (full : Bool) (l : List UInt8) (g off c : Nat) (s : ByteArray) (hs : I64 (s.size : Int)) (r : Int) (hr : I64 r) (d : Nat) (hd : U64 d) (h : Rr w p full (encS s.data.toList ++ (enc r ++ (lb d ++ l))) g off c) (q : Nat) (hq : w.cell? ⟨q, 0, none⟩ = some (.pointer (some ⟨p, 0, none⟩))) (hqp : q ≠ p) :
    Calls Tryz.prog 57 #[.pointer (some ⟨q, 0, none⟩)] w (NPost w p full (.agg #[.string s, .int .i64 r, .int .u64 d]) l g) := by
  have H := Lib.hid h
  have HR0 := Lib.hid (h.alloc (.cells #[.string ⟨#[]⟩, .int .i64 0, .int .u64 0] 39)).drew
  have hqs : q < w.heap.size := World.block_lt_of_cell? w _ hq
  have hpl := h.lt
  have hpB : w.heap.size ≠ p := by omega
  have hBq : w.heap.size ≠ q := by omega
  have hgB : w.heap.size ≠ g := by have := h.2.2.2.2.1; omega
  have HF0 := Lib.hid (FStep.refl p (w.alloc (.cells #[.string ⟨#[]⟩, .int .i64 0, .int .u64 0] 39)).drew)
  have hq0 : (w.alloc (.cells #[.string ⟨#[]⟩, .int .i64 0, .int .u64 0] 39)).drew.cell? ⟨q, 0, none⟩ = some (.pointer (some ⟨p, 0, none⟩)) := cell_alloc _ hq
  have HQ := Lib.hid hq0
  have hmf : ∀ (fn : Fn) (first cap : Array Value) (w : World), (Instr.makeFunc fn first cap).run Tryz.prog w = .ok (.func fn first cap) w := fun _ _ _ _ => rfl
  clear h hq0
  go_enter Tryz.func57, Tryz.ntmps57
  go_wp2_with fail
  go_region_held3 (fun w' => w'.cell? ⟨q, 0, none⟩ = some (.pointer (some ⟨p, 0, none⟩))) (first | (with_reducible exact HQ.out) | (with_reducible exact hqx1) | (with_reducible exact hqx2) | (with_reducible exact hqx3) | ((repeat (with_reducible refine keep_set hBq ?_)); with_reducible exact hqx3))
    (first
      | (go_at_call 58; refine (rtext_any _ p full s hs _ g off c HR0.out).mono ?_; rintro e w1 ⟨rfl, ⟨o1, c1, hR⟩, hF⟩; have HF1 := Lib.hid (HF0.out.trans hF); have hqx1 := (HF1.out.cell (k := q) (by simp; omega) hqp 0).trans HQ.out; have HR1 := Lib.hid hR; clear hR hF HR0; have hk1 := HF1.out.cell (k := w.heap.size) (by simp) hpB; have hm1 := HF1.out.froz (k := w.heap.size) (by simp) hpB; have hsz1 : w.heap.size < w1.heap.size := by have := HF1.out.size; simp at this; omega)
      | (go_at_call 59; refine (rint_any _ p full r hr _ g o1 c1 HR1.out).mono ?_; rintro e w2 ⟨rfl, ⟨o2, c2, hR⟩, hF⟩; have HF2 := Lib.hid (HF1.out.trans hF); have hqx2 := (HF2.out.cell (k := q) (by simp; omega) hqp 0).trans HQ.out; have HR2 := Lib.hid hR; clear hR hF HR1 hk1 hm1 hqx1 hsz1; have hk2 := HF2.out.cell (k := w.heap.size) (by simp) hpB; have hm2 := HF2.out.froz (k := w.heap.size) (by simp) hpB; have hsz2 : w.heap.size < w2.heap.size := by have := HF2.out.size; simp at this; omega)
      | (go_at_call 60; refine (digest_any _ p full d hd _ g o2 c2 HR2.out).mono ?_; rintro e w3 ⟨rfl, ⟨o3, c3, hR⟩, hF⟩; have HF3 := Lib.hid (HF2.out.trans hF); have hqx3 := (HF3.out.cell (k := q) (by simp; omega) hqp 0).trans HQ.out; have HR3 := Lib.hid hR; clear hR hF HR2 hk2 hm2 hqx2 hsz2; have hk3 := HF3.out.cell (k := w.heap.size) (by simp) hpB; have hm3 := HF3.out.froz (k := w.heap.size) (by simp) hpB; have hsz3 : w.heap.size < w3.heap.size := by have := HF3.out.size; simp at this; omega))
  go_wp2_with fail
  have hB := fin3 (fin3 ((HF3.out.block w.heap.size (by simp) hpB).trans (heap_alloc_new w _)) (.string s) (.int .i64 r) (.int .u64 d)) (.string s) (.int .i64 r) (.int .u64 d)
  have f0 := cell_at hB 0
  have f1 := cell_at hB 1
  have f2 := cell_at hB 2
  simp only [List.getElem?_toArray, List.getElem?_cons_zero, List.getElem?_cons_succ] at f0 f1 f2
  exact bodyPost_ret (v := .agg #[.string s, .int .i64 r, .int .u64 d]) (by simp [results, Tryz.results57, go_sem, f0, f1, f2]) rfl ⟨rfl, ⟨_, _, ((((((HR3.out).setCell _ _ hpB hgB).setCell _ _ hpB hgB).setCell _ _ hpB hgB).setCell _ _ hpB hgB).setCell _ _ hpB hgB).setCell _ _ hpB hgB⟩, (((((((((FStep.alloc p w (.cells #[.string ⟨#[]⟩, .int .i64 0, .int .u64 0] 39)).trans (FStep.drew p _)).trans HF3.out)).setNew (Nat.le_refl _) _).setNew (Nat.le_refl _) _).setNew (Nat.le_refl _) _).setNew (Nat.le_refl _) _).setNew (Nat.le_refl _) _).setNew (Nat.le_refl _) _⟩

set_option maxRecDepth 100000 in
set_option maxHeartbeats 2000000 in
theorem rmodule2_any (w : World) (p : Nat) (full : Bool) (l : List UInt8) (g off c : Nat) (since : Int) (hsi : I64 since) (b1 b2 : Bool) (s : ByteArray) (hs : I64 (s.size : Int)) (h : Rr w p full (enc since ++ (encB b1 ++ (encB b2 ++ (encS s.data.toList ++ (enc 0 ++ (enc 0 ++ l)))))) g off c) (q : Nat) (hq : w.cell? ⟨q, 0, none⟩ = some (.pointer (some ⟨p, 0, none⟩))) (hqp : q ≠ p) :
    Calls Tryz.prog 126 #[.pointer (some ⟨q, 0, none⟩)] w (NPost w p full (.agg #[.int .i64 since, .bool b1, .bool b2, .string s, .slice none 0 0, .slice none 0 0]) l g) := by
  have H := Lib.hid h
  have HR0 := Lib.hid (h.alloc (.cells #[.int .i64 0, .bool false, .bool false, .string ⟨#[]⟩, .slice none 0 0, .slice none 0 0] 30)).drew
  have hqs : q < w.heap.size := World.block_lt_of_cell? w _ hq
  have hpl := h.lt
  have hpB : w.heap.size ≠ p := by omega
  have hBq : w.heap.size ≠ q := by omega
  have hgB : w.heap.size ≠ g := by have := h.2.2.2.2.1; omega
  have HF0 := Lib.hid (FStep.refl p (w.alloc (.cells #[.int .i64 0, .bool false, .bool false, .string ⟨#[]⟩, .slice none 0 0, .slice none 0 0] 30)).drew)
  have hq0 : (w.alloc (.cells #[.int .i64 0, .bool false, .bool false, .string ⟨#[]⟩, .slice none 0 0, .slice none 0 0] 30)).drew.cell? ⟨q, 0, none⟩ = some (.pointer (some ⟨p, 0, none⟩)) := cell_alloc _ hq
  have HQ := Lib.hid hq0
  have hmf : ∀ (fn : Fn) (first cap : Array Value) (w : World), (Instr.makeFunc fn first cap).run Tryz.prog w = .ok (.func fn first cap) w := fun _ _ _ _ => rfl
  clear h hq0
  go_enter Tryz.func126, Tryz.ntmps126
  go_wp2_with fail
  go_region_held3 (fun w' => w'.cell? ⟨q, 0, none⟩ = some (.pointer (some ⟨p, 0, none⟩))) (first | (with_reducible exact HQ.out) | (with_reducible exact hqx1) | (with_reducible exact hqx2) | (with_reducible exact hqx3) | (with_reducible exact hqx4) | (with_reducible exact hqx5) | ((repeat (with_reducible refine keep_set hBq ?_)); with_reducible exact hqx5))
    (first
      | (go_at_call 59; refine (rint_any _ p full since hsi _ g off c HR0.out).mono ?_; rintro e w1 ⟨rfl, ⟨o1, c1, hR⟩, hF⟩; have HF1 := Lib.hid (HF0.out.trans hF); have hqx1 := (HF1.out.cell (k := q) (by simp; omega) hqp 0).trans HQ.out; have HR1 := Lib.hid hR; clear hR hF HR0; have hk1 := HF1.out.cell (k := w.heap.size) (by simp) hpB; have hm1 := HF1.out.froz (k := w.heap.size) (by simp) hpB; have hsz1 : w.heap.size < w1.heap.size := by have := HF1.out.size; simp at this; omega)
      | (go_at_call 127; refine (rtruth_any _ p full b1 _ g o1 c1 HR1.out).mono ?_; rintro e w2 ⟨rfl, ⟨o2, c2, hR⟩, hF⟩; have HF2 := Lib.hid (HF1.out.trans hF); have hqx2 := (HF2.out.cell (k := q) (by simp; omega) hqp 0).trans HQ.out; have HR2 := Lib.hid hR; clear hR hF HR1 hk1 hm1 hqx1 hsz1; have hk2 := HF2.out.cell (k := w.heap.size) (by simp) hpB; have hm2 := HF2.out.froz (k := w.heap.size) (by simp) hpB; have hsz2 : w.heap.size < w2.heap.size := by have := HF2.out.size; simp at this; omega)
      | (go_at_call 127; refine (rtruth_any _ p full b2 _ g o2 c2 HR2.out).mono ?_; rintro e w3 ⟨rfl, ⟨o3, c3, hR⟩, hF⟩; have HF3 := Lib.hid (HF2.out.trans hF); have hqx3 := (HF3.out.cell (k := q) (by simp; omega) hqp 0).trans HQ.out; have HR3 := Lib.hid hR; clear hR hF HR2 hk2 hm2 hqx2 hsz2; have hk3 := HF3.out.cell (k := w.heap.size) (by simp) hpB; have hm3 := HF3.out.froz (k := w.heap.size) (by simp) hpB; have hsz3 : w.heap.size < w3.heap.size := by have := HF3.out.size; simp at this; omega)
      | (go_at_call 58; refine (rtext_any _ p full s hs _ g o3 c3 HR3.out).mono ?_; rintro e w4 ⟨rfl, ⟨o4, c4, hR⟩, hF⟩; have HF4 := Lib.hid (HF3.out.trans hF); have hqx4 := (HF4.out.cell (k := q) (by simp; omega) hqp 0).trans HQ.out; have HR4 := Lib.hid hR; clear hR hF HR3 hk3 hm3 hqx3 hsz3; have hk4 := HF4.out.cell (k := w.heap.size) (by simp) hpB; have hm4 := HF4.out.froz (k := w.heap.size) (by simp) hpB; have hsz4 : w.heap.size < w4.heap.size := by have := HF4.out.size; simp at this; omega)
      | (go_at_call 128; refine (rtexts_nil _ p full _ g o4 c4 HR4.out).mono ?_; rintro e w5 ⟨rfl, ⟨o5, c5, hR⟩, hF⟩; have HF5 := Lib.hid (HF4.out.trans hF); have hqx5 := (HF5.out.cell (k := q) (by simp; omega) hqp 0).trans HQ.out; have HR5 := Lib.hid hR; clear hR hF HR4 hk4 hm4 hqx4 hsz4; have hk5 := HF5.out.cell (k := w.heap.size) (by simp) hpB; have hm5 := HF5.out.froz (k := w.heap.size) (by simp) hpB; have hsz5 : w.heap.size < w5.heap.size := by have := HF5.out.size; simp at this; omega))
  go_wp2_with fail
  have HRS := Lib.hid ((((((HR5.out).setCell ⟨w.heap.size, 0, none⟩ (.int .i64 since) hpB hgB).setCell ⟨w.heap.size, 1, none⟩ (.bool b1) hpB hgB).setCell ⟨w.heap.size, 2, none⟩ (.bool b2) hpB hgB).setCell ⟨w.heap.size, 3, none⟩ (.string s) hpB hgB).setCell ⟨w.heap.size, 4, none⟩ (.slice none 0 0) hpB hgB)
  have HFS := Lib.hid ((((((((FStep.alloc p w (.cells #[.int .i64 0, .bool false, .bool false, .string ⟨#[]⟩, .slice none 0 0, .slice none 0 0] 30)).trans (FStep.drew p _)).trans HF5.out).setNew (a := ⟨w.heap.size, 0, none⟩) (Nat.le_refl _) (.int .i64 since)).setNew (a := ⟨w.heap.size, 1, none⟩) (Nat.le_refl _) (.bool b1)).setNew (a := ⟨w.heap.size, 2, none⟩) (Nat.le_refl _) (.bool b2)).setNew (a := ⟨w.heap.size, 3, none⟩) (Nat.le_refl _) (.string s)).setNew (a := ⟨w.heap.size, 4, none⟩) (Nat.le_refl _) (.slice none 0 0))
  have HBS := Lib.hid (fst5_6 ((HF5.out.block w.heap.size (by simp) hpB).trans (heap_alloc_new w _)) (.int .i64 since) (.bool b1) (.bool b2) (.string s) (.slice none 0 0))
  refine (read129_nil _ p full _ _ _ _ HRS.out _ _ _).mono ?_
  rintro e w6 ⟨rfl, ⟨o6, c6, hR⟩, hF⟩
  have hk6 := hF.cell (k := w.heap.size) (by simp; omega) hpB
  have hm6 := hF.froz (k := w.heap.size) (by simp; omega) hpB
  have hBt := (hF.block w.heap.size (by simp; omega) hpB).trans HBS.out
  have HBT := Lib.hid hBt
  have HR6 := Lib.hid hR
  have HF6 := Lib.hid (HFS.out.trans hF)
  clear hR hF hBt
  go_wp2_with fail
  have hB := fin6 (fstl_6 HBT.out (.slice none 0 0)) (.int .i64 since) (.bool b1) (.bool b2) (.string s) (.slice none 0 0) (.slice none 0 0)
  have f0 := cell_at hB 0
  have f1 := cell_at hB 1
  have f2 := cell_at hB 2
  have f3 := cell_at hB 3
  have f4 := cell_at hB 4
  have f5 := cell_at hB 5
  simp only [List.getElem?_toArray, List.getElem?_cons_zero, List.getElem?_cons_succ] at f0 f1 f2 f3 f4 f5
  exact bodyPost_ret (v := .agg #[.int .i64 since, .bool b1, .bool b2, .string s, .slice none 0 0, .slice none 0 0]) (by simp [results, Tryz.results126, go_sem, f0, f1, f2, f3, f4, f5]) rfl ⟨rfl, ⟨_, _, (((((((HR6.out).setCell _ _ hpB hgB).setCell _ _ hpB hgB).setCell _ _ hpB hgB).setCell _ _ hpB hgB).setCell _ _ hpB hgB).setCell _ _ hpB hgB).setCell _ _ hpB hgB⟩, (((((((HF6.out).setNew (Nat.le_refl _) _).setNew (Nat.le_refl _) _).setNew (Nat.le_refl _) _).setNew (Nat.le_refl _) _).setNew (Nat.le_refl _) _).setNew (Nat.le_refl _) _).setNew (Nat.le_refl _) _⟩

end Go.Proofs.YtgliaafiompilabGreatDoor

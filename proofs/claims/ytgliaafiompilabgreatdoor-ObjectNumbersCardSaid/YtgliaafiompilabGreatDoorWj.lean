/- The walks of Valid, the program's and the reference's. -/
import Derived.Test.YtgliaafiompilabGreatDoorWi
namespace Go.Proofs.YtgliaafiompilabGreatDoor
open Go.RowKit Go.Lib

set_option maxRecDepth 100000 in
set_option maxHeartbeats 2000000 in
theorem valid_full (w : World) (name : ByteArray) (rel : Int) (hn : name.toList.isEmpty = false) (hr0 : 0 ≤ rel) (hr1 : rel ≤ 1000) (bi ci : Nat) (a2 : Option Addr) (n2 c2 : Nat) (ba ca : Nat) (s : ByteArray) (ar : Int) (ha0 : 1 ≤ ar) (ha1 : ar ≤ 1000) (d : Nat)
    (hbi : w.cell? ⟨bi, 0, none⟩ = some (.string s)) (hba0 : w.cell? ⟨ba, 0, none⟩ = some (.string s)) (hba1 : w.cell? ⟨ba, 1, none⟩ = some (.int .i64 ar)) (hba2 : w.cell? ⟨ba, 2, none⟩ = some (.int .u64 d)) :
    Calls Tryz.prog 9 #[.agg #[.int .i64 1, .string name, .int .i64 rel, .slice (some ⟨bi, 0, none⟩) 1 ci, .slice a2 n2 c2, .slice none 0 0, .slice none 0 0, .slice none 0 0, .slice none 0 0, .slice none 0 0, .slice none 0 0, .slice (some ⟨ba, 0, none⟩) 1 ca]] w (RPost w (.int .i64 0)) := by
  have hmm := @run_makeMap Tryz.prog
  have hi := World.block_lt_of_cell? w _ hbi
  have ha := World.block_lt_of_cell? w _ hba0
  dsimp only at hi ha
  go_enter Tryz.func9, Tryz.ntmps9
  go_wp2_with fail
  refine (isSkel1 _ _ _ _ _ _ _ _ _).mono ?_
  rintro e w1 ⟨rfl, hb⟩
  have hz := hb.size
  simp at hz
  have z0 : w.heap.size < w1.heap.size := by omega
  have z1 : w.heap.size + 1 < w1.heap.size := by omega
  have k0 : ∀ o, w1.cell? ⟨w.heap.size, o, none⟩ = _ := fun o => hb.cell (p := ⟨w.heap.size, o, none⟩) (by simp; omega)
  have k1 : ∀ o, w1.cell? ⟨w.heap.size + 1, o, none⟩ = _ := fun o => hb.cell (p := ⟨w.heap.size + 1, o, none⟩) (by simp)
  have z2 : bi < w1.heap.size := by omega
  have z3 : ba < w1.heap.size := by omega
  have k2 := (hb.cell (p := ⟨bi, 0, none⟩) (by simp; omega)).trans (cell_alloc _ (cell_alloc _ hbi))
  have k3 := (hb.cell (p := ⟨ba, 0, none⟩) (by simp; omega)).trans (cell_alloc _ (cell_alloc _ hba0))
  have k4 := (hb.cell (p := ⟨ba, 1, none⟩) (by simp; omega)).trans (cell_alloc _ (cell_alloc _ hba1))
  have k5 := (hb.cell (p := ⟨ba, 2, none⟩) (by simp; omega)).trans (cell_alloc _ (cell_alloc _ hba2))
  have HB := Lib.hid (((((Below.refl w.heap.size w).alloc (Nat.le_refl _) (.cells #[.int .i64 1, .string name, .int .i64 rel, .slice (some ⟨bi, 0, none⟩) 1 ci, .slice a2 n2 c2, .slice none 0 0, .slice none 0 0, .slice none 0 0, .slice none 0 0, .slice none 0 0, .slice none 0 0, .slice (some ⟨ba, 0, none⟩) 1 ca] 44)).alloc (by simp) (.cells #[.int .i64 1, .string name, .int .i64 rel, .slice (some ⟨bi, 0, none⟩) 1 ci, .slice a2 n2 c2, .slice none 0 0, .slice none 0 0, .slice none 0 0, .slice none 0 0] 37))).trans (hb.mono (by simp; omega)))
  clear hb hbi hba0 hba1 hba2
  have c1 : decide (ar < 1) = false := by simp; omega
  have c2 : decide (1000 < ar) = false := by simp; omega
  go_wp2_with fail
  refine wp_loop_rounds 1 ?_
  rw [rounds_succ]
  go_wp2_with fail
  refine wp_loop_rounds 1 ?_
  rw [rounds_succ]
  go_wp2_with fail
  refine wp_loop_rounds 2 ?_
  rw [rounds_succ]
  go_wp2_with fail
  go_quiet (fail)
  go_wp2_with fail
  rw [rounds_succ]
  go_wp2_with fail
  go_ret
  exact ⟨rfl, below_drewN ((HB.out.alloc (by omega) _).alloc (by simp; omega) _) _⟩

set_option maxRecDepth 100000 in
set_option maxHeartbeats 2000000 in
theorem valid_bare (w : World) (name : ByteArray) (rel : Int) (hn : name.toList.isEmpty = false) (hr0 : 0 ≤ rel) (hr1 : rel ≤ 1000)  :
    Calls Tryz.prog 9 #[.agg #[.int .i64 2, .string name, .int .i64 rel, .slice none 0 0, .slice none 0 0, .slice none 0 0, .slice none 0 0, .slice none 0 0, .slice none 0 0, .slice none 0 0, .slice none 0 0, .slice none 0 0]] w (RPost w (.int .i64 0)) := by
  have hmm := @run_makeMap Tryz.prog
  go_enter Tryz.func9, Tryz.ntmps9
  go_wp2_with fail
  refine (isSkel2 _ _ _ _ _ _ _ _ _).mono ?_
  rintro e w1 ⟨rfl, hb⟩
  have hz := hb.size
  simp at hz
  have z0 : w.heap.size < w1.heap.size := by omega
  have z1 : w.heap.size + 1 < w1.heap.size := by omega
  have k0 : ∀ o, w1.cell? ⟨w.heap.size, o, none⟩ = _ := fun o => hb.cell (p := ⟨w.heap.size, o, none⟩) (by simp; omega)
  have k1 : ∀ o, w1.cell? ⟨w.heap.size + 1, o, none⟩ = _ := fun o => hb.cell (p := ⟨w.heap.size + 1, o, none⟩) (by simp)
  have HB := Lib.hid (((((Below.refl w.heap.size w).alloc (Nat.le_refl _) (.cells #[.int .i64 2, .string name, .int .i64 rel, .slice none 0 0, .slice none 0 0, .slice none 0 0, .slice none 0 0, .slice none 0 0, .slice none 0 0, .slice none 0 0, .slice none 0 0, .slice none 0 0] 44)).alloc (by simp) (.cells #[.int .i64 2, .string name, .int .i64 rel, .slice none 0 0, .slice none 0 0, .slice none 0 0, .slice none 0 0, .slice none 0 0, .slice none 0 0] 37))).trans (hb.mono (by simp; omega)))
  clear hb
  go_wp2_with fail
  refine wp_loop_rounds 1 ?_
  rw [rounds_succ]
  go_wp2_with fail
  refine wp_loop_rounds 1 ?_
  rw [rounds_succ]
  go_wp2_with fail
  refine wp_loop_rounds 1 ?_
  rw [rounds_succ]
  go_wp2_with fail
  go_ret
  exact ⟨rfl, HB.out.alloc (by omega) _⟩

set_option maxRecDepth 100000 in
set_option maxHeartbeats 2000000 in
theorem ovalid_full (w : World) (name : ByteArray) (rel : Int) (hn : name.toList.isEmpty = false) (hr0 : 0 ≤ rel) (hr1 : rel ≤ 1000) (bi ci : Nat) (a2 : Option Addr) (n2 c2 : Nat) (ba ca : Nat) (s : ByteArray) (ar : Int) (ha0 : 1 ≤ ar) (ha1 : ar ≤ 1000) (d : Nat)
    (hbi : w.cell? ⟨bi, 0, none⟩ = some (.string s)) (hba0 : w.cell? ⟨ba, 0, none⟩ = some (.string s)) (hba1 : w.cell? ⟨ba, 1, none⟩ = some (.int .i64 ar)) (hba2 : w.cell? ⟨ba, 2, none⟩ = some (.int .u64 d)) :
    Calls Tryz.prog 13 #[.agg #[.int .i64 1, .string name, .int .i64 rel, .slice (some ⟨bi, 0, none⟩) 1 ci, .slice a2 n2 c2, .slice none 0 0, .slice none 0 0, .slice none 0 0, .slice none 0 0, .slice none 0 0, .slice none 0 0, .slice (some ⟨ba, 0, none⟩) 1 ca]] w (RPost w (.int .i64 0)) := by
  have hi := World.block_lt_of_cell? w _ hbi
  have ha := World.block_lt_of_cell? w _ hba0
  dsimp only at hi ha
  go_enter Tryz.func13, Tryz.ntmps13
  go_wp2_with fail
  refine (oisSkel1 _ _ _ _ _ _ _ _ _).mono ?_
  rintro e w1 ⟨rfl, hb⟩
  have hz := hb.size
  simp at hz
  have z0 : w.heap.size < w1.heap.size := by omega
  have z1 : w.heap.size + 1 < w1.heap.size := by omega
  have k0 : ∀ o, w1.cell? ⟨w.heap.size, o, none⟩ = _ := fun o => hb.cell (p := ⟨w.heap.size, o, none⟩) (by simp; omega)
  have k1 : ∀ o, w1.cell? ⟨w.heap.size + 1, o, none⟩ = _ := fun o => hb.cell (p := ⟨w.heap.size + 1, o, none⟩) (by simp)
  have z2 : bi < w1.heap.size := by omega
  have z3 : ba < w1.heap.size := by omega
  have k2 := (hb.cell (p := ⟨bi, 0, none⟩) (by simp; omega)).trans (cell_alloc _ (cell_alloc _ hbi))
  have k3 := (hb.cell (p := ⟨ba, 0, none⟩) (by simp; omega)).trans (cell_alloc _ (cell_alloc _ hba0))
  have k4 := (hb.cell (p := ⟨ba, 1, none⟩) (by simp; omega)).trans (cell_alloc _ (cell_alloc _ hba1))
  have k5 := (hb.cell (p := ⟨ba, 2, none⟩) (by simp; omega)).trans (cell_alloc _ (cell_alloc _ hba2))
  have HB := Lib.hid (((((Below.refl w.heap.size w).alloc (Nat.le_refl _) (.cells #[.int .i64 1, .string name, .int .i64 rel, .slice (some ⟨bi, 0, none⟩) 1 ci, .slice a2 n2 c2, .slice none 0 0, .slice none 0 0, .slice none 0 0, .slice none 0 0, .slice none 0 0, .slice none 0 0, .slice (some ⟨ba, 0, none⟩) 1 ca] 44)).alloc (by simp) (.cells #[.int .i64 1, .string name, .int .i64 rel, .slice (some ⟨bi, 0, none⟩) 1 ci, .slice a2 n2 c2, .slice none 0 0, .slice none 0 0, .slice none 0 0, .slice none 0 0] 37))).trans (hb.mono (by simp; omega)))
  clear hb hbi hba0 hba1 hba2
  have c1 : decide (ar < 1) = false := by simp; omega
  have c2 : decide (1000 < ar) = false := by simp; omega
  go_wp2_with fail
  refine wp_loop_rounds 1 ?_
  rw [rounds_succ]
  go_wp2_with fail
  refine wp_loop_rounds 1 ?_
  rw [rounds_succ]
  go_wp2_with fail
  refine wp_loop_rounds 2 ?_
  rw [rounds_succ]
  go_wp2_with fail
  go_quiet (fail)
  go_wp2_with fail
  rw [rounds_succ]
  go_wp2_with fail
  go_ret
  exact ⟨rfl, below_drewN HB.out _⟩

set_option maxRecDepth 100000 in
set_option maxHeartbeats 2000000 in
theorem ovalid_bare (w : World) (name : ByteArray) (rel : Int) (hn : name.toList.isEmpty = false) (hr0 : 0 ≤ rel) (hr1 : rel ≤ 1000)  :
    Calls Tryz.prog 13 #[.agg #[.int .i64 2, .string name, .int .i64 rel, .slice none 0 0, .slice none 0 0, .slice none 0 0, .slice none 0 0, .slice none 0 0, .slice none 0 0, .slice none 0 0, .slice none 0 0, .slice none 0 0]] w (RPost w (.int .i64 0)) := by
  go_enter Tryz.func13, Tryz.ntmps13
  go_wp2_with fail
  refine (oisSkel2 _ _ _ _ _ _ _ _ _).mono ?_
  rintro e w1 ⟨rfl, hb⟩
  have hz := hb.size
  simp at hz
  have z0 : w.heap.size < w1.heap.size := by omega
  have z1 : w.heap.size + 1 < w1.heap.size := by omega
  have k0 : ∀ o, w1.cell? ⟨w.heap.size, o, none⟩ = _ := fun o => hb.cell (p := ⟨w.heap.size, o, none⟩) (by simp; omega)
  have k1 : ∀ o, w1.cell? ⟨w.heap.size + 1, o, none⟩ = _ := fun o => hb.cell (p := ⟨w.heap.size + 1, o, none⟩) (by simp)
  have HB := Lib.hid (((((Below.refl w.heap.size w).alloc (Nat.le_refl _) (.cells #[.int .i64 2, .string name, .int .i64 rel, .slice none 0 0, .slice none 0 0, .slice none 0 0, .slice none 0 0, .slice none 0 0, .slice none 0 0, .slice none 0 0, .slice none 0 0, .slice none 0 0] 44)).alloc (by simp) (.cells #[.int .i64 2, .string name, .int .i64 rel, .slice none 0 0, .slice none 0 0, .slice none 0 0, .slice none 0 0, .slice none 0 0, .slice none 0 0] 37))).trans (hb.mono (by simp; omega)))
  clear hb
  go_wp2_with fail
  refine wp_loop_rounds 1 ?_
  rw [rounds_succ]
  go_wp2_with fail
  refine wp_loop_rounds 1 ?_
  rw [rounds_succ]
  go_wp2_with fail
  refine wp_loop_rounds 1 ?_
  rw [rounds_succ]
  go_wp2_with fail
  go_ret
  exact ⟨rfl, HB.out⟩

end Go.Proofs.YtgliaafiompilabGreatDoor

/- The walks of the reader's small functions. -/
import Derived.Test.YtgliaafiompilabGreatDoorWm
import Derived.Test.YtgliaafiompilabGreatDoorDec
namespace Go.Proofs.YtgliaafiompilabGreatDoor
open Go.RowKit Go.Lib

/-- From w to w' block p alone has been written to. -/
structure FStep (p : Nat) (w w' : World) : Prop where
  os : w'.os = w.os
  tape : w'.tape = w.tape
  output : w'.output = w.output
  size : w.heap.size ≤ w'.heap.size
  block : ∀ k, k < w.heap.size → k ≠ p → w'.heap[k]? = w.heap[k]?

theorem FStep.refl (p : Nat) (w : World) : FStep p w w := ⟨rfl, rfl, rfl, Nat.le_refl _, fun _ _ _ => rfl⟩
theorem FStep.trans {p : Nat} {a b c : World} (h : FStep p a b) (g : FStep p b c) : FStep p a c :=
  ⟨g.os.trans h.os, g.tape.trans h.tape, g.output.trans h.output, Nat.le_trans h.size g.size, fun k hk hp => (g.block k (Nat.lt_of_lt_of_le hk h.size) hp).trans (h.block k hk hp)⟩
theorem FStep.alloc (p : Nat) (w : World) (o : Obj) : FStep p w (w.alloc o) := ⟨rfl, rfl, rfl, by simp, fun k hk _ => Below.heap_alloc _ _ _ hk⟩
theorem FStep.drew (p : Nat) (w : World) : FStep p w w.drew := ⟨rfl, rfl, rfl, Nat.le_refl _, fun _ _ _ => rfl⟩
theorem FStep.setCell (p : Nat) (w : World) (o : Nat) (v : Value) : FStep p w (w.setCell ⟨p, o, none⟩ v) := ⟨rfl, rfl, rfl, by simp [World.setCell], fun k _ hp => Below.heap_setCell _ _ _ _ hp⟩
theorem FStep.cell {p : Nat} {w w' : World} (h : FStep p w w') {k : Nat} (hk : k < w.heap.size) (hp : k ≠ p) : ∀ o, w'.cell? ⟨k, o, none⟩ = w.cell? ⟨k, o, none⟩ :=
  fun o => World.cell?_of_block (w := w) (a := ⟨k, o, none⟩) (h.block k hk hp)

/-- The reader p has the bytes l before it, from ⟨g, off⟩ on; nothing was wrong. -/
def Rr (w : World) (p : Nat) (full : Bool) (l : List UInt8) (g off c : Nat) : Prop :=
  w.heap[p]? = some (.cells #[.slice (some ⟨g, off, none⟩) l.length c, .bool false, .bool full] 66 (0, 0)) ∧ Rd w g off l ∧ l.length + 8 ≤ c ∧ g ≠ p ∧ g < w.heap.size ∧ Short 0 l

theorem Rr.cell0 {w : World} {p : Nat} {full : Bool} {l : List UInt8} {g off c : Nat} (h : Rr w p full l g off c) : w.cell? ⟨p, 0, none⟩ = some (.slice (some ⟨g, off, none⟩) l.length c) := by
  rw [cell_of_row w p 0 _ 66 (0, 0) h.1]; rfl
theorem Rr.cell1 {w : World} {p : Nat} {full : Bool} {l : List UInt8} {g off c : Nat} (h : Rr w p full l g off c) : w.cell? ⟨p, 1, none⟩ = some (.bool false) := by
  rw [cell_of_row w p 1 _ 66 (0, 0) h.1]; rfl
theorem Rr.froz {w : World} {p : Nat} {full : Bool} {l : List UInt8} {g off c : Nat} (h : Rr w p full l g off c) : w.frozen? ⟨p, 0, none⟩ = false := by
  simp [World.frozen?, h.1]
theorem Rr.lt {w : World} {p : Nat} {full : Bool} {l : List UInt8} {g off c : Nat} (h : Rr w p full l g off c) : p < w.heap.size := (Array.getElem?_eq_some_iff.1 h.1).1

/-- The reader goes on by k bytes. -/
theorem Rr.step {w : World} {p : Nat} {full : Bool} {x l : List UInt8} {g off c : Nat} (h : Rr w p full (x ++ l) g off c) (k : Nat) (hk : k = x.length) :
    Rr (w.setCell ⟨p, 0, none⟩ (.slice (some ⟨g, off + k, none⟩) l.length (c - k))) p full l g (off + k) (c - k) := by
  subst hk
  obtain ⟨h1, h2, h3, h4, h5, h6⟩ := h
  refine ⟨?_, ?_, ?_, h4, by simpa [World.setCell] using h5, ?_⟩
  · simp only [World.setCell, Array.getElem?_modify, h1]
    simp
  · intro j hj
    rw [World.cell?_of_block (w := w) (a := ⟨g, off + x.length + j, none⟩) (Below.heap_setCell _ _ _ _ h4)]
    have := h2 (x.length + j) (by rw [List.length_append]; omega)
    rw [← Nat.add_assoc] at this
    rw [this]
    simp [List.getD_eq_getElem?_getD, List.getElem?_append_right]
  · rw [List.length_append] at h3; omega
  · unfold Short at *; rw [List.length_append] at h6; omega

/-- A reader stays while its blocks stay. -/
theorem Rr.kept {w w' : World} {p : Nat} {full : Bool} {l : List UInt8} {g off c : Nat} (h : Rr w p full l g off c) (hp : w'.heap[p]? = w.heap[p]?) (hg : w'.heap[g]? = w.heap[g]?) (hs : w.heap.size ≤ w'.heap.size) : Rr w' p full l g off c := by
  obtain ⟨h1, h2, h3, h4, h5, h6⟩ := h
  refine ⟨by rw [hp]; exact h1, fun j hj => ?_, h3, h4, by omega, h6⟩
  rw [World.cell?_of_block (w := w) (a := ⟨g, off + j, none⟩) hg]
  exact h2 j hj

theorem Rr.alloc {w : World} {p : Nat} {full : Bool} {l : List UInt8} {g off c : Nat} (h : Rr w p full l g off c) (o : Obj) : Rr (w.alloc o) p full l g off c :=
  h.kept (Below.heap_alloc _ _ _ h.lt) (Below.heap_alloc _ _ _ h.2.2.2.2.1) (by simp)
theorem Rr.drew {w : World} {p : Nat} {full : Bool} {l : List UInt8} {g off c : Nat} (h : Rr w p full l g off c) : Rr w.drew p full l g off c := h
/-- A store into another block. -/
theorem Rr.setCell {w : World} {p : Nat} {full : Bool} {l : List UInt8} {g off c : Nat} (h : Rr w p full l g off c) (a : Addr) (v : Value) (h1 : a.block ≠ p) (h2 : a.block ≠ g) : Rr (w.setCell a v) p full l g off c :=
  h.kept (Below.heap_setCell _ _ _ _ (Ne.symm h1)) (Below.heap_setCell _ _ _ _ (Ne.symm h2)) (by simp [World.setCell])

/-- What a call of a reader's function comes to: v, and the bytes l are left. -/
def NPost (w : World) (p : Nat) (full : Bool) (v : Value) (l : List UInt8) (g : Nat) (e : Ending) (w' : World) : Prop :=
  e = .returned v ∧ (∃ off c, Rr w' p full l g off c) ∧ FStep p w w'

/-- The lowest 7 k bits. -/
def low (m k : Nat) : Nat := m % 128 ^ k

theorem getD_left (x l : List UInt8) (k : Nat) (h : k < x.length) : (x ++ l).getD k 0 = x.getD k 0 := by
  simp [List.getD_eq_getElem?_getD, List.getElem?_append_left h]

theorem low_step (n : Int) (hz : U64 (zig n)) (k : Nat) (bk : UInt8) (hb : bk.toNat % 128 = zig n / 128 ^ k % 128) (hk : k < 10) :
    bits .or .u64 (low (zig n) k : Int) (IntKind.u64.wrap (IntKind.u64.wrap (bits .and .u8 (bk.toNat : Int) 127) * 2 ^ (7 * k))) = (low (zig n) (k + 1) : Int) :=
  read_step (zig n) k hz hk bk hb

theorem low_last (n : Int) (hz : U64 (zig n)) (k : Nat) (bk : UInt8) (hb : bk.toNat % 128 = zig n / 128 ^ k % 128) (hk : (enc n).length = k + 1) (h10 : (enc n).length ≤ 10) :
    bits .or .u64 (low (zig n) k : Int) (IntKind.u64.wrap (IntKind.u64.wrap (bits .and .u8 (bk.toNat : Int) 127) * 2 ^ (7 * k))) = (zig n : Int) := by
  rw [low_step n hz k bk hb (by omega)]
  unfold low
  rw [vb_all k (zig n) hk]

theorem ret_int {k : IntKind} {a b : Int} (h : a = b) : Ending.returned (.int k a) = .returned (.int k b) := by rw [h]

theorem unzig (n : Int) (hn : I64 n) : bits .xor .i64 (wrap64 ((zig n : Int) / 2)) (wrap64 (-wrap64 (bits .and .u64 (zig n : Int) 1))) = n := by
  have hz := zig_lt hn
  have e1 : bits .and .u64 (zig n : Int) 1 = ((zig n % 2 : Nat) : Int) := by
    have := u64_and_nat (zig n) 1 hz (by omega)
    rw [nat_mask1] at this
    exact this
  obtain ⟨h1, h2⟩ := hn
  rw [e1]
  by_cases h : 0 ≤ n
  · have e2 : zig n = (2 * n).toNat := by unfold zig; rw [if_pos h]
    have e3 : wrap64 ((zig n : Int) / 2) = n := by rw [e2]; unfold wrap64; omega
    have e4 : wrap64 (-wrap64 ((zig n % 2 : Nat) : Int)) = 0 := by rw [e2]; unfold wrap64; omega
    rw [e3, e4]
    exact xor_zero_i64 n ⟨h1, h2⟩
  · have e2 : zig n = (-2 * n - 1).toNat := by unfold zig; rw [if_neg h]
    have e3 : wrap64 ((zig n : Int) / 2) = -n - 1 := by rw [e2]; unfold wrap64; omega
    have e4 : wrap64 (-wrap64 ((zig n % 2 : Nat) : Int)) = -1 := by rw [e2]; unfold wrap64; omega
    rw [e3, e4, xor_neg_i64 _ ⟨by omega, by omega⟩]
    omega

theorem rnumber_left {w : World} {p : Nat} {full : Bool} {x l : List UInt8} {g off c k : Nat} (h : Rr w p full (x ++ l) g off c) (hk : x.length = k + 1) :
    ∃ off' c', Rr (w.setCell ⟨p, 0, none⟩ (.slice (some ⟨g, off + (k + 1), none⟩) (x.length + l.length - (k + 1)) (c - (k + 1)))) p full l g off' c' := by
  have := h.step (k + 1) hk.symm
  have e : x.length + l.length - (k + 1) = l.length := by omega
  rw [e]
  exact ⟨_, _, this⟩

set_option maxRecDepth 100000 in
set_option maxHeartbeats 1000000 in
theorem rnumber_any (w : World) (p : Nat) (full : Bool) (n : Int) (hn : I64 n) (l : List UInt8) (g off c : Nat) (h : Rr w p full (enc n ++ l) g off c) :
    Calls Tryz.prog 161 #[.pointer (some ⟨p, 0, none⟩)] w (NPost w p full (.int .i64 n) l g) := by
  have hc0 := h.cell0
  have hf0 := h.froz
  have H := Lib.hid h
  have hz := zig_lt hn
  have hlen := vb_len10 hz
  have hl10 : (enc n).length ≤ 10 := hlen
  have hcap : (enc n).length + l.length + 8 ≤ c := by have := h.2.2.1; rw [List.length_append] at this; exact this
  have HN := Lib.hid hn
  clear h hlen hn
  go_enter Tryz.func161, Tryz.ntmps161
  go_wp2_with fail
  go_loop [3, 11] (fun u i => ∃ k : Nat, k < (enc n).length ∧ i = .int .i64 k ∧ u = .int .u64 (low (zig n) k : Int)) (fun _ i => 10 - (intOf i).toNat)
  case atStart => exact ⟨0, vb_pos _, rfl, by simp [low, Nat.mod_one]⟩
  case round =>
    obtain ⟨k, hk, rfl, rfl⟩ := hrel
    have hb1 := vb_byte_mod k (zig n) hk
    have hb2 := vb_byte_lt k (zig n) hk
    have hb3 := vb_byte_pos k (zig n) hk
    have hb4 : k = 9 → ((vb (zig n)).getD k 0).toNat ≤ 1 := fun e => by subst e; exact vb_byte_nine (zig n) hz hk
    have hcell := H.out.2.1 k (by rw [List.length_append]; omega)
    rw [getD_left _ _ _ hk] at hcell
    have hlt256 : ((vb (zig n)).getD k 0).toNat < 256 := ((vb (zig n)).getD k 0).toNat_lt
    have HB1 := Lib.hid hb1
    change _ = some (Value.int .u8 (((vb (zig n)).getD k 0).toNat : Int)) at hcell
    generalize hbk : (vb (zig n)).getD k 0 = bk at *
    clear hbk hb1
    have hbz : ∀ x : Nat, 0 < x → ((x : Int) == 0) = false := fun x hx => by simp; omega
    by_cases hlast : bk.toNat < 128
    · have hkl : (enc n).length = k + 1 := hb2.1 hlast
      have HKL := Lib.hid hkl
      have HX := Lib.hid (low_last n hz k bk HB1.out hkl hl10)
      have hkk : (enc n).length ≤ k + 1 := by omega
      clear hkl hb2
      by_cases e9 : k = 9
      · have t9 : ((k : Int) == 9) = true := by simp; omega
        have t1 := hbz _ (hb3 (by omega))
        have t2 : 0 < k := by omega
        have t3 : decide (1 < bk.toNat) = false := by simp; exact hb4 e9
        have t4 : decide ((1 : Int) < (bk.toNat : Int)) = false := by simp; have := hb4 e9; omega
        clear hb3 hb4 hbz e9
        go_wp2_with fail
        go_ret
        exact ⟨ret_int (by rw [HX.out]; exact unzig n HN.out), rnumber_left H.out HKL.out, FStep.setCell _ _ _ _⟩
      · have t9 : ((k : Int) == 9) = false := by simp; omega
        by_cases e0 : k = 0
        · have t2 : decide (0 < k) = false := by simp; omega
          have t3 : decide ((0 : Int) < (k : Int)) = false := by simp; omega
          clear hb3 hb4 hbz e9 e0
          go_wp2_with fail
          go_ret
          exact ⟨ret_int (by rw [HX.out]; exact unzig n HN.out), rnumber_left H.out HKL.out, FStep.setCell _ _ _ _⟩
        · have t1 := hbz _ (hb3 (by omega))
          have t2 : 0 < k := by omega
          clear hb3 hb4 hbz e9 e0
          go_wp2_with fail
          go_ret
          exact ⟨ret_int (by rw [HX.out]; exact unzig n HN.out), rnumber_left H.out HKL.out, FStep.setCell _ _ _ _⟩
    · have hkl : k + 1 < (enc n).length := by
        have : ¬ (enc n).length = k + 1 := fun e => hlast (hb2.2 e)
        omega
      have HKL := Lib.hid hkl
      have HX := Lib.hid (low_step n hz k bk HB1.out (by omega))
      have hlast' : 128 ≤ bk.toNat := by omega
      clear hb2 hlast
      by_cases e9 : k = 9
      · have t9 : ((k : Int) == 9) = true := by simp; omega
        have t1 := hbz _ (hb3 (by omega))
        have t2 : 0 < k := by omega
        have t3 : decide (1 < bk.toNat) = false := by simp; exact hb4 e9
        have t4 : decide ((1 : Int) < (bk.toNat : Int)) = false := by simp; have := hb4 e9; omega
        clear hb3 hb4 hbz e9
        go_wp2_with fail
        go_round
        case rel => exact ⟨k + 1, HKL.out, by go_num, by rw [HX.out]⟩
        case measure => simp [intOf]; omega
      · have t9 : ((k : Int) == 9) = false := by simp; omega
        by_cases e0 : k = 0
        · have t2 : decide (0 < k) = false := by simp; omega
          have t3 : decide ((0 : Int) < (k : Int)) = false := by simp; omega
          clear hb3 hb4 hbz e9 e0
          go_wp2_with fail
          go_round
          case rel => exact ⟨k + 1, HKL.out, by go_num, by rw [HX.out]⟩
          case measure => simp [intOf]; omega
        · have t1 := hbz _ (hb3 (by omega))
          have t2 : 0 < k := by omega
          clear hb3 hb4 hbz e9 e0
          go_wp2_with fail
          go_round
          case rel => exact ⟨k + 1, HKL.out, by go_num, by rw [HX.out]⟩
          case measure => simp [intOf]; omega
end Go.Proofs.YtgliaafiompilabGreatDoor

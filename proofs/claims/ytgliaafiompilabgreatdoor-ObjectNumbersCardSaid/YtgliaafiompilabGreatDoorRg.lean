/- The walk of Decode. -/
import Derived.Test.YtgliaafiompilabGreatDoorRf
namespace Go.Proofs.YtgliaafiompilabGreatDoor
open Go.RowKit Go.Lib

theorem Rd.take {w : World} {g off : Nat} {x y : List UInt8} (h : Rd w g off (x ++ y)) : Rd w g off x := by
  intro j hj
  rw [h j (by rw [List.length_append]; omega), getD_left _ _ _ hj]
theorem Rd.drop {w : World} {g off : Nat} {x y : List UInt8} (h : Rd w g off (x ++ y)) (k : Nat) (hk : k = x.length) : Rd w g (off + k) y := by
  subst hk
  intro j hj
  rw [Nat.add_assoc, h (x.length + j) (by rw [List.length_append]; omega)]
  simp [List.getD_eq_getElem?_getD, List.getElem?_append_right]
theorem Rd.block {w w' : World} {g off : Nat} {x : List UInt8} (h : Rd w g off x) (hg : w'.heap[g]? = w.heap[g]?) : Rd w' g off x := by
  intro j hj
  rw [World.cell?_of_block (w := w) (a := ⟨g, off + j, none⟩) hg]
  exact h j hj

theorem dec_test1 (M : Nat) (h : M ≤ 50000) : decide ((200000 : Int) < ((M + 12 : Nat) : Int)) = false := by
  simp only [decide_eq_false_iff_not]; omega
theorem dec_test1' (M : Nat) (h : M ≤ 50000) : decide (200000 < M + 12) = false := by
  simp only [decide_eq_false_iff_not]; omega
theorem dec_test1'' (M : Nat) (h : M ≤ 50000) : decide ((200000 : Int) < (M : Int) + 12) = false := by
  simp only [decide_eq_false_iff_not]; omega

theorem dec_wrap (M : Nat) (h : M ≤ 50000) : wrap64 ((M : Int) + 12 - 8) = (M : Int) + 4 := by unfold wrap64; omega

theorem sum_at (w : World) (g off c : Nat) (l : List UInt8) (h : Rd w g off l) (hl : Short 0 l) (n : Nat) (hn : l.length = n) :
    Calls Tryz.prog 12 #[.slice (some ⟨g, off, none⟩) n c] w fun e w' => e = .returned (.int .u64 (fsum l)) ∧ w = w' := by
  subst hn
  exact sum_any w g off c l h hl

theorem fsum_u64 (l : List UInt8) : U64 (fsum l) := fsumTo_lt _ _

theorem fin12 {w : World} {B : Nat} {T : TypeId} {x0 x1 x2 x3 x4 x5 x6 x7 x8 x9 x10 x11 : Value} (h : w.heap[B]? = some (.cells #[x0, x1, x2, x3, x4, x5, x6, x7, x8, x9, x10, x11] T (0, 0))) (v0 v1 v2 v3 v4 v5 v6 v7 v8 v9 v10 v11 : Value) :
    ((((((((((((w.setCell ⟨B, 0, none⟩ v0).setCell ⟨B, 1, none⟩ v1).setCell ⟨B, 2, none⟩ v2).setCell ⟨B, 3, none⟩ v3).setCell ⟨B, 4, none⟩ v4).setCell ⟨B, 5, none⟩ v5).setCell ⟨B, 6, none⟩ v6).setCell ⟨B, 7, none⟩ v7).setCell ⟨B, 8, none⟩ v8).setCell ⟨B, 9, none⟩ v9).setCell ⟨B, 10, none⟩ v10).setCell ⟨B, 11, none⟩ v11).heap[B]? = some (.cells #[v0, v1, v2, v3, v4, v5, v6, v7, v8, v9, v10, v11] T (0, 0)) := by
  have := heap_set (heap_set (heap_set (heap_set (heap_set (heap_set (heap_set (heap_set (heap_set (heap_set (heap_set (heap_set h 0 v0) 1 v1) 2 v2) 3 v3) 4 v4) 5 v5) 6 v6) 7 v7) 8 v8) 9 v9) 10 v10) 11 v11
  simpa using this

/-- What Decode comes to at an object with one import, one struct, and what it was compiled against. -/
def DFull (w : World) (name : ByteArray) (rel : Int) (s : ByteArray) (r : Int) (since : Int) (b1 b2 : Bool) (t : ByteArray) (ar : Int) (d : Nat) (e : Ending) (w' : World) : Prop :=
  ∃ bi ci bs cs ba ca, e = .returned (.tuple #[.agg #[.int .i64 1, .string name, .int .i64 rel, .slice (some ⟨bi, 0, none⟩) 1 ci, .slice (some ⟨bs, 0, none⟩) 1 cs, .slice none 0 0, .slice none 0 0, .slice none 0 0, .slice none 0 0, .slice none 0 0, .slice none 0 0, .slice (some ⟨ba, 0, none⟩) 1 ca], .int .i64 0]) ∧
    (∀ j x, [Value.string s, .int .i64 r][j]? = some x → w'.cell? ⟨bi, j, none⟩ = some x) ∧ (∀ j x, [Value.int .i64 since, .bool b1, .bool b2, .string t, .slice none 0 0, .slice none 0 0][j]? = some x → w'.cell? ⟨bs, j, none⟩ = some x) ∧
    (∀ j x, [Value.string s, .int .i64 ar, .int .u64 d][j]? = some x → w'.cell? ⟨ba, j, none⟩ = some x) ∧ Below w.heap.size w w'

set_option maxRecDepth 100000 in
set_option maxHeartbeats 4000000 in
theorem decode_bare (w : World) (gb c M : Nat) (body : List UInt8) (hM : body.length = M) (hM2 : M ≤ 50000) (hc : M + 12 ≤ c) (h : Rd w gb 0 (file body)) (name : ByteArray) (rel : Int) (hn : name.toList.isEmpty = false) (hr0 : 0 ≤ rel) (hr1 : rel ≤ 1000) (hns : I64 (name.size : Int))
    (hb : body = encObject (encModule 2 name rel (enc 0) (enc 0)) (enc 0)) :
    Calls Tryz.prog 7 #[.slice (some ⟨gb, 0, none⟩) (M + 12) c] w (RPost w (.tuple #[.agg #[.int .i64 2, .string name, .int .i64 rel, .slice none 0 0, .slice none 0 0, .slice none 0 0, .slice none 0 0, .slice none 0 0, .slice none 0 0, .slice none 0 0, .slice none 0 0, .slice none 0 0], .int .i64 0])) := by
  have hgb : gb < w.heap.size := World.block_lt_of_cell? w _ (h 0 (by unfold file magic; simp))
  have hrel : I64 rel := ⟨by omega, by omega⟩
  have HR := Lib.hid hrel
  have t1 := dec_test1 M hM2
  have t2 := dec_test1' M hM2
  have t3 := dec_test1'' M hM2
  have t4 : decide (M + 12 < 12) = false := by simp
  have t5 : decide ((M : Int) + 12 < 12) = false := by simp; omega
  have HM := Lib.hid hM
  have HM2 := Lib.hid hM2
  have HB := Lib.hid hb
  have e1 : (magic ++ body).length = M + 4 := by rw [List.length_append, hM]; show 4 + M = M + 4; omega
  have HMB := Lib.hid e1
  have hR1 : Rd (w.alloc (.cells #[.int .i64 0, .string ⟨#[]⟩, .int .i64 0, .slice none 0 0, .slice none 0 0, .slice none 0 0, .slice none 0 0, .slice none 0 0, .slice none 0 0, .slice none 0 0, .slice none 0 0, .slice none 0 0] 44)) gb 0 (file body) := h.block (Below.heap_alloc _ _ _ hgb)
  have hR2 : Rd (w.alloc (.cells #[.int .i64 0, .string ⟨#[]⟩, .int .i64 0, .slice none 0 0, .slice none 0 0, .slice none 0 0, .slice none 0 0, .slice none 0 0, .slice none 0 0, .slice none 0 0, .slice none 0 0, .slice none 0 0] 44)) gb 0 (magic ++ (body ++ lb (fsum (magic ++ body)))) := by have := hR1; unfold file at this; rw [List.append_assoc] at this; exact this
  have hR3 : Rd (w.alloc (.cells #[.int .i64 0, .string ⟨#[]⟩, .int .i64 0, .slice none 0 0, .slice none 0 0, .slice none 0 0, .slice none 0 0, .slice none 0 0, .slice none 0 0, .slice none 0 0, .slice none 0 0, .slice none 0 0] 44)) gb 0 (magic ++ body) := Rd.take (y := lb (fsum (magic ++ body))) hR1
  have hR4 : Rd (w.alloc (.cells #[.int .i64 0, .string ⟨#[]⟩, .int .i64 0, .slice none 0 0, .slice none 0 0, .slice none 0 0, .slice none 0 0, .slice none 0 0, .slice none 0 0, .slice none 0 0, .slice none 0 0, .slice none 0 0] 44)) gb (M + 4) (lb (fsum (magic ++ body)) ++ []) := by
    rw [List.append_nil]
    have := Rd.drop (x := magic ++ body) hR1 (M + 4) e1.symm
    rw [Nat.zero_add] at this
    exact this
  have hR5 : Rd (w.alloc (.cells #[.int .i64 0, .string ⟨#[]⟩, .int .i64 0, .slice none 0 0, .slice none 0 0, .slice none 0 0, .slice none 0 0, .slice none 0 0, .slice none 0 0, .slice none 0 0, .slice none 0 0, .slice none 0 0] 44)) gb 4 body := by
    have := Rd.drop (x := magic) (Rd.take (x := magic ++ body) hR1) 4 rfl
    rw [Nat.zero_add] at this
    exact this
  have hcv := conv_str (w := w.alloc (.cells #[.int .i64 0, .string ⟨#[]⟩, .int .i64 0, .slice none 0 0, .slice none 0 0, .slice none 0 0, .slice none 0 0, .slice none 0 0, .slice none 0 0, .slice none 0 0, .slice none 0 0, .slice none 0 0] 44)) ⟨#[76, 69, 79, 1]⟩ hR2 c
  have hcv' : (convert 45 9 (.slice (some ⟨gb, 0, none⟩) 4 c)).run Tryz.prog (w.alloc (.cells #[.int .i64 0, .string ⟨#[]⟩, .int .i64 0, .slice none 0 0, .slice none 0 0, .slice none 0 0, .slice none 0 0, .slice none 0 0, .slice none 0 0, .slice none 0 0, .slice none 0 0, .slice none 0 0] 44)) = .ok (.string ⟨#[76, 69, 79, 1]⟩) (w.alloc (.cells #[.int .i64 0, .string ⟨#[]⟩, .int .i64 0, .slice none 0 0, .slice none 0 0, .slice none 0 0, .slice none 0 0, .slice none 0 0, .slice none 0 0, .slice none 0 0, .slice none 0 0, .slice none 0 0] 44)) := hcv
  have HR3 := Lib.hid hR3
  have HR4 := Lib.hid hR4
  have HR5 := Lib.hid hR5
  have hS3 : Short 0 (magic ++ body) := by unfold Short; omega
  have HS3 := Lib.hid hS3
  have hU := fsum_u64 (magic ++ body)
  have HU := Lib.hid hU
  have hlc : M + 4 < c := by omega
  have hlc2 : M + 12 ≤ c := hc
  clear hrel hM hM2 hb e1 h hR1 hR2 hR3 hR4 hR5 hS3 hU hcv hc
  go_enter Tryz.func7, Tryz.ntmps7
  go_wp2_with fail
  rw [dec_wrap M HM2.out]
  have s1 : (0 : Int) ≤ (M : Int) + 4 := by omega
  have s2 : (M : Int) + 4 ≤ (M : Int) + 12 := by omega
  have s3 : ((M : Int) + 4).toNat = M + 4 := by omega
  have s4 : M + 4 ≤ M + 12 := by omega
  have s5 : M + 12 - (M + 4) = 8 := by omega
  go_quiet ((first | (go_at_call 18; exact Calls.quiet_of_same ((rlong_any _ gb (M + 4) 8 _ (fsum (magic ++ body)) HU.out [] (by exact HR4.out) (by omega) (by omega)).mono fun _ _ hh => ⟨hh.1, hh.2.symm⟩)) | (go_at_call 12; exact Calls.quiet_of_same ((sum_at _ gb 0 c (magic ++ body) (by exact HR3.out) HS3.out (M + 4) HMB.out).mono fun _ _ hh => ⟨hh.1, hh.2.symm⟩))))
  have hMb := HM2.out
  go_wp2_with fail
  clear hMb
  have HRX : Hid (Rr (((w.alloc (.cells #[.int .i64 0, .string ⟨#[]⟩, .int .i64 0, .slice none 0 0, .slice none 0 0, .slice none 0 0, .slice none 0 0, .slice none 0 0, .slice none 0 0, .slice none 0 0, .slice none 0 0, .slice none 0 0] 44)).drewN nq).alloc (.cells #[.slice (some ⟨gb, 4, none⟩) M (c - 4), .bool false, .bool false] 66)) (w.heap.size + 1) false (body ++ []) gb 4 (c - 4)) := by
    have e1 : ((w.alloc (.cells #[.int .i64 0, .string ⟨#[]⟩, .int .i64 0, .slice none 0 0, .slice none 0 0, .slice none 0 0, .slice none 0 0, .slice none 0 0, .slice none 0 0, .slice none 0 0, .slice none 0 0, .slice none 0 0] 44)).drewN nq).heap.size = w.heap.size + 1 := by simp
    have e2 : (body ++ []).length = M := by rw [List.append_nil]; exact HM.out
    refine ⟨?_, ?_, ?_, by omega, by simp; omega, ?_⟩
    · rw [e2, ← e1]; exact heap_alloc_new _ _
    · rw [List.append_nil]
      exact Rd.block (w := w.alloc (.cells #[.int .i64 0, .string ⟨#[]⟩, .int .i64 0, .slice none 0 0, .slice none 0 0, .slice none 0 0, .slice none 0 0, .slice none 0 0, .slice none 0 0, .slice none 0 0, .slice none 0 0, .slice none 0 0] 44)) HR5.out (Below.heap_alloc ((w.alloc (.cells #[.int .i64 0, .string ⟨#[]⟩, .int .i64 0, .slice none 0 0, .slice none 0 0, .slice none 0 0, .slice none 0 0, .slice none 0 0, .slice none 0 0, .slice none 0 0, .slice none 0 0, .slice none 0 0] 44)).drewN nq) _ _ (by simp; omega))
    · rw [e2]; omega
    · unfold Short; rw [e2]; have := HM2.out; omega
  have HBX : Hid (Below w.heap.size w (((w.alloc (.cells #[.int .i64 0, .string ⟨#[]⟩, .int .i64 0, .slice none 0 0, .slice none 0 0, .slice none 0 0, .slice none 0 0, .slice none 0 0, .slice none 0 0, .slice none 0 0, .slice none 0 0, .slice none 0 0] 44)).drewN nq).alloc (.cells #[.slice (some ⟨gb, 4, none⟩) M (c - 4), .bool false, .bool false] 66))) := (below_drewN ((Below.refl _ _).alloc (Nat.le_refl _) _) nq).alloc (by simp) _
  have HZX : Hid ((((w.alloc (.cells #[.int .i64 0, .string ⟨#[]⟩, .int .i64 0, .slice none 0 0, .slice none 0 0, .slice none 0 0, .slice none 0 0, .slice none 0 0, .slice none 0 0, .slice none 0 0, .slice none 0 0, .slice none 0 0] 44)).drewN nq).alloc (.cells #[.slice (some ⟨gb, 4, none⟩) M (c - 4), .bool false, .bool false] 66)).heap[w.heap.size]? = some (.cells #[.int .i64 0, .string ⟨#[]⟩, .int .i64 0, .slice none 0 0, .slice none 0 0, .slice none 0 0, .slice none 0 0, .slice none 0 0, .slice none 0 0, .slice none 0 0, .slice none 0 0, .slice none 0 0] 44)) := by
    have := (Below.heap_alloc ((w.alloc (.cells #[.int .i64 0, .string ⟨#[]⟩, .int .i64 0, .slice none 0 0, .slice none 0 0, .slice none 0 0, .slice none 0 0, .slice none 0 0, .slice none 0 0, .slice none 0 0, .slice none 0 0, .slice none 0 0] 44)).drewN nq) (.cells #[.slice (some ⟨gb, 4, none⟩) M (c - 4), .bool false, .bool false] 66) w.heap.size (by simp)).trans (heap_alloc_new w (.cells #[.int .i64 0, .string ⟨#[]⟩, .int .i64 0, .slice none 0 0, .slice none 0 0, .slice none 0 0, .slice none 0 0, .slice none 0 0, .slice none 0 0, .slice none 0 0, .slice none 0 0, .slice none 0 0] 44))
    exact this
  have hsX : w.heap.size + 1 < (((w.alloc (.cells #[.int .i64 0, .string ⟨#[]⟩, .int .i64 0, .slice none 0 0, .slice none 0 0, .slice none 0 0, .slice none 0 0, .slice none 0 0, .slice none 0 0, .slice none 0 0, .slice none 0 0, .slice none 0 0] 44)).drewN nq).alloc (.cells #[.slice (some ⟨gb, 4, none⟩) M (c - 4), .bool false, .bool false] 66)).heap.size := by simp
  have HSX := Lib.hid hsX
  clear hsX
  generalize (((w.alloc (.cells #[.int .i64 0, .string ⟨#[]⟩, .int .i64 0, .slice none 0 0, .slice none 0 0, .slice none 0 0, .slice none 0 0, .slice none 0 0, .slice none 0 0, .slice none 0 0, .slice none 0 0, .slice none 0 0] 44)).drewN nq).alloc (.cells #[.slice (some ⟨gb, 4, none⟩) M (c - 4), .bool false, .bool false] 66)) = X at *
  rw [HB.out] at HRX
  refine (robject_bare X (w.heap.size + 1) false [] gb 4 (c - 4) 2 name rel (by decide) hns HR.out HRX.out).mono ?_
  rintro e w1 ⟨rfl, ⟨o1, c1, hR⟩, hF⟩
  have hc1 := hR.cell1
  have hc0 := hR.cell0
  rw [List.length_nil] at hc0
  have hZ1 := (hF.block w.heap.size (by have := HSX.out; omega) (by omega)).trans HZX.out
  have hs1 : w.heap.size + 1 < w1.heap.size := Nat.lt_of_lt_of_le HSX.out hF.size
  have hs0 : w.heap.size < w1.heap.size := by omega
  have HZ1 := Lib.hid hZ1
  have HB1 : Hid (Below w.heap.size w w1) := HBX.out.trans ⟨hF.os, hF.tape, hF.output, hF.size, fun k hk => hF.block k (by have := HSX.out; omega) (by omega)⟩
  clear hR hF hZ1
  go_wp2_with fail
  refine (valid_bare _ name rel hn hr0 hr1).mono ?_
  rintro e w2 ⟨rfl, hb⟩
  have hv : ∀ o, w2.cell? ⟨w1.heap.size, o, none⟩ = _ := fun o => hb.cell (p := ⟨w1.heap.size, o, none⟩) (by simp)
  have hZ2 := (hb.block w.heap.size (by simp; omega)).trans ((Below.heap_alloc w1 _ _ hs0).trans HZ1.out)
  have hz0 := cell_at hZ2 0
  have hz1 := cell_at hZ2 1
  have hz2 := cell_at hZ2 2
  have hz3 := cell_at hZ2 3
  have hz4 := cell_at hZ2 4
  have hz5 := cell_at hZ2 5
  have hz6 := cell_at hZ2 6
  have hz7 := cell_at hZ2 7
  have hz8 := cell_at hZ2 8
  have hz9 := cell_at hZ2 9
  have hz10 := cell_at hZ2 10
  have hz11 := cell_at hZ2 11
  simp only [List.getElem?_toArray, List.getElem?_cons_zero, List.getElem?_cons_succ] at hz0 hz1 hz2 hz3 hz4 hz5 hz6 hz7 hz8 hz9 hz10 hz11
  have hfz : ∀ o, w2.frozen? ⟨w.heap.size, o, none⟩ = false := fun o => by simp [World.frozen?, hZ2]
  have hs2 : w1.heap.size < w2.heap.size := by have := hb.size; simp at this; omega
  have HZ2 := Lib.hid hZ2
  have HB2 := Lib.hid ((HB1.out.alloc (by omega) (.cells #[.int .i64 2, .string name, .int .i64 rel, .slice none 0 0, .slice none 0 0, .slice none 0 0, .slice none 0 0, .slice none 0 0, .slice none 0 0, .slice none 0 0, .slice none 0 0, .slice none 0 0] 44)).trans (hb.mono (by simp; omega)))
  clear hb hZ2
  go_wp2_with fail
  have hB := fin12 HZ2.out (.int .i64 2) (.string name) (.int .i64 rel) (.slice none 0 0) (.slice none 0 0) (.slice none 0 0) (.slice none 0 0) (.slice none 0 0) (.slice none 0 0) (.slice none 0 0) (.slice none 0 0) (.slice none 0 0)
  have f0 := cell_at hB 0
  have f1 := cell_at hB 1
  have f2 := cell_at hB 2
  have f3 := cell_at hB 3
  have f4 := cell_at hB 4
  have f5 := cell_at hB 5
  have f6 := cell_at hB 6
  have f7 := cell_at hB 7
  have f8 := cell_at hB 8
  have f9 := cell_at hB 9
  have f10 := cell_at hB 10
  have f11 := cell_at hB 11
  simp only [List.getElem?_toArray, List.getElem?_cons_zero, List.getElem?_cons_succ] at f0 f1 f2 f3 f4 f5 f6 f7 f8 f9 f10 f11
  refine bodyPost_ret (v := .tuple #[.agg #[.int .i64 2, .string name, .int .i64 rel, .slice none 0 0, .slice none 0 0, .slice none 0 0, .slice none 0 0, .slice none 0 0, .slice none 0 0, .slice none 0 0, .slice none 0 0, .slice none 0 0], .int .i64 0]) (by simp [results, Tryz.results7, go_sem, f0, f1, f2, f3, f4, f5, f6, f7, f8, f9, f10, f11]) rfl ?_
  exact ⟨rfl, ((((((((((((HB2.out).setCell (Nat.le_refl _) _).setCell (Nat.le_refl _) _).setCell (Nat.le_refl _) _).setCell (Nat.le_refl _) _).setCell (Nat.le_refl _) _).setCell (Nat.le_refl _) _).setCell (Nat.le_refl _) _).setCell (Nat.le_refl _) _).setCell (Nat.le_refl _) _).setCell (Nat.le_refl _) _).setCell (Nat.le_refl _) _).setCell (Nat.le_refl _) _⟩
set_option maxRecDepth 100000 in
set_option maxHeartbeats 4000000 in
theorem decode_full (w : World) (gb c M : Nat) (body : List UInt8) (hM : body.length = M) (hM2 : M ≤ 50000) (hc : M + 12 ≤ c) (h : Rd w gb 0 (file body)) (name : ByteArray) (rel : Int) (hn : name.toList.isEmpty = false) (hr0 : 0 ≤ rel) (hr1 : rel ≤ 1000) (s : ByteArray) (hs : I64 (s.size : Int)) (r : Int) (hr : I64 r) (since : Int) (hsi : I64 since) (b1 b2 : Bool) (t : ByteArray) (ht : I64 (t.size : Int)) (ar : Int) (d : Nat) (ha0 : 1 ≤ ar) (ha1 : ar ≤ 1000) (hd : U64 d) (hns : I64 (name.size : Int))
    (hb : body = encObject (encModule 1 name rel (enc 1 ++ (encS s.data.toList ++ enc r)) (enc 1 ++ encStruct since b1 b2 t)) (enc 1 ++ (encS s.data.toList ++ (enc ar ++ lb d)))) :
    Calls Tryz.prog 7 #[.slice (some ⟨gb, 0, none⟩) (M + 12) c] w (DFull w name rel s r since b1 b2 t ar d) := by
  have hgb : gb < w.heap.size := World.block_lt_of_cell? w _ (h 0 (by unfold file magic; simp))
  have hrel : I64 rel := ⟨by omega, by omega⟩
  have HR := Lib.hid hrel
  have HAR : Hid (I64 ar) := ⟨by omega, by omega⟩
  have t1 := dec_test1 M hM2
  have t2 := dec_test1' M hM2
  have t3 := dec_test1'' M hM2
  have t4 : decide (M + 12 < 12) = false := by simp
  have t5 : decide ((M : Int) + 12 < 12) = false := by simp; omega
  have HM := Lib.hid hM
  have HM2 := Lib.hid hM2
  have HB := Lib.hid hb
  have e1 : (magic ++ body).length = M + 4 := by rw [List.length_append, hM]; show 4 + M = M + 4; omega
  have HMB := Lib.hid e1
  have hR1 : Rd (w.alloc (.cells #[.int .i64 0, .string ⟨#[]⟩, .int .i64 0, .slice none 0 0, .slice none 0 0, .slice none 0 0, .slice none 0 0, .slice none 0 0, .slice none 0 0, .slice none 0 0, .slice none 0 0, .slice none 0 0] 44)) gb 0 (file body) := h.block (Below.heap_alloc _ _ _ hgb)
  have hR2 : Rd (w.alloc (.cells #[.int .i64 0, .string ⟨#[]⟩, .int .i64 0, .slice none 0 0, .slice none 0 0, .slice none 0 0, .slice none 0 0, .slice none 0 0, .slice none 0 0, .slice none 0 0, .slice none 0 0, .slice none 0 0] 44)) gb 0 (magic ++ (body ++ lb (fsum (magic ++ body)))) := by have := hR1; unfold file at this; rw [List.append_assoc] at this; exact this
  have hR3 : Rd (w.alloc (.cells #[.int .i64 0, .string ⟨#[]⟩, .int .i64 0, .slice none 0 0, .slice none 0 0, .slice none 0 0, .slice none 0 0, .slice none 0 0, .slice none 0 0, .slice none 0 0, .slice none 0 0, .slice none 0 0] 44)) gb 0 (magic ++ body) := Rd.take (y := lb (fsum (magic ++ body))) hR1
  have hR4 : Rd (w.alloc (.cells #[.int .i64 0, .string ⟨#[]⟩, .int .i64 0, .slice none 0 0, .slice none 0 0, .slice none 0 0, .slice none 0 0, .slice none 0 0, .slice none 0 0, .slice none 0 0, .slice none 0 0, .slice none 0 0] 44)) gb (M + 4) (lb (fsum (magic ++ body)) ++ []) := by
    rw [List.append_nil]
    have := Rd.drop (x := magic ++ body) hR1 (M + 4) e1.symm
    rw [Nat.zero_add] at this
    exact this
  have hR5 : Rd (w.alloc (.cells #[.int .i64 0, .string ⟨#[]⟩, .int .i64 0, .slice none 0 0, .slice none 0 0, .slice none 0 0, .slice none 0 0, .slice none 0 0, .slice none 0 0, .slice none 0 0, .slice none 0 0, .slice none 0 0] 44)) gb 4 body := by
    have := Rd.drop (x := magic) (Rd.take (x := magic ++ body) hR1) 4 rfl
    rw [Nat.zero_add] at this
    exact this
  have hcv := conv_str (w := w.alloc (.cells #[.int .i64 0, .string ⟨#[]⟩, .int .i64 0, .slice none 0 0, .slice none 0 0, .slice none 0 0, .slice none 0 0, .slice none 0 0, .slice none 0 0, .slice none 0 0, .slice none 0 0, .slice none 0 0] 44)) ⟨#[76, 69, 79, 1]⟩ hR2 c
  have hcv' : (convert 45 9 (.slice (some ⟨gb, 0, none⟩) 4 c)).run Tryz.prog (w.alloc (.cells #[.int .i64 0, .string ⟨#[]⟩, .int .i64 0, .slice none 0 0, .slice none 0 0, .slice none 0 0, .slice none 0 0, .slice none 0 0, .slice none 0 0, .slice none 0 0, .slice none 0 0, .slice none 0 0] 44)) = .ok (.string ⟨#[76, 69, 79, 1]⟩) (w.alloc (.cells #[.int .i64 0, .string ⟨#[]⟩, .int .i64 0, .slice none 0 0, .slice none 0 0, .slice none 0 0, .slice none 0 0, .slice none 0 0, .slice none 0 0, .slice none 0 0, .slice none 0 0, .slice none 0 0] 44)) := hcv
  have HR3 := Lib.hid hR3
  have HR4 := Lib.hid hR4
  have HR5 := Lib.hid hR5
  have hS3 : Short 0 (magic ++ body) := by unfold Short; omega
  have HS3 := Lib.hid hS3
  have hU := fsum_u64 (magic ++ body)
  have HU := Lib.hid hU
  have hlc : M + 4 < c := by omega
  have hlc2 : M + 12 ≤ c := hc
  clear hrel hM hM2 hb e1 h hR1 hR2 hR3 hR4 hR5 hS3 hU hcv hc
  go_enter Tryz.func7, Tryz.ntmps7
  go_wp2_with fail
  rw [dec_wrap M HM2.out]
  have s1 : (0 : Int) ≤ (M : Int) + 4 := by omega
  have s2 : (M : Int) + 4 ≤ (M : Int) + 12 := by omega
  have s3 : ((M : Int) + 4).toNat = M + 4 := by omega
  have s4 : M + 4 ≤ M + 12 := by omega
  have s5 : M + 12 - (M + 4) = 8 := by omega
  go_quiet ((first | (go_at_call 18; exact Calls.quiet_of_same ((rlong_any _ gb (M + 4) 8 _ (fsum (magic ++ body)) HU.out [] (by exact HR4.out) (by omega) (by omega)).mono fun _ _ hh => ⟨hh.1, hh.2.symm⟩)) | (go_at_call 12; exact Calls.quiet_of_same ((sum_at _ gb 0 c (magic ++ body) (by exact HR3.out) HS3.out (M + 4) HMB.out).mono fun _ _ hh => ⟨hh.1, hh.2.symm⟩))))
  have hMb := HM2.out
  go_wp2_with fail
  clear hMb
  have HRX : Hid (Rr (((w.alloc (.cells #[.int .i64 0, .string ⟨#[]⟩, .int .i64 0, .slice none 0 0, .slice none 0 0, .slice none 0 0, .slice none 0 0, .slice none 0 0, .slice none 0 0, .slice none 0 0, .slice none 0 0, .slice none 0 0] 44)).drewN nq).alloc (.cells #[.slice (some ⟨gb, 4, none⟩) M (c - 4), .bool false, .bool false] 66)) (w.heap.size + 1) false (body ++ []) gb 4 (c - 4)) := by
    have e1 : ((w.alloc (.cells #[.int .i64 0, .string ⟨#[]⟩, .int .i64 0, .slice none 0 0, .slice none 0 0, .slice none 0 0, .slice none 0 0, .slice none 0 0, .slice none 0 0, .slice none 0 0, .slice none 0 0, .slice none 0 0] 44)).drewN nq).heap.size = w.heap.size + 1 := by simp
    have e2 : (body ++ []).length = M := by rw [List.append_nil]; exact HM.out
    refine ⟨?_, ?_, ?_, by omega, by simp; omega, ?_⟩
    · rw [e2, ← e1]; exact heap_alloc_new _ _
    · rw [List.append_nil]
      exact Rd.block (w := w.alloc (.cells #[.int .i64 0, .string ⟨#[]⟩, .int .i64 0, .slice none 0 0, .slice none 0 0, .slice none 0 0, .slice none 0 0, .slice none 0 0, .slice none 0 0, .slice none 0 0, .slice none 0 0, .slice none 0 0] 44)) HR5.out (Below.heap_alloc ((w.alloc (.cells #[.int .i64 0, .string ⟨#[]⟩, .int .i64 0, .slice none 0 0, .slice none 0 0, .slice none 0 0, .slice none 0 0, .slice none 0 0, .slice none 0 0, .slice none 0 0, .slice none 0 0, .slice none 0 0] 44)).drewN nq) _ _ (by simp; omega))
    · rw [e2]; omega
    · unfold Short; rw [e2]; have := HM2.out; omega
  have HBX : Hid (Below w.heap.size w (((w.alloc (.cells #[.int .i64 0, .string ⟨#[]⟩, .int .i64 0, .slice none 0 0, .slice none 0 0, .slice none 0 0, .slice none 0 0, .slice none 0 0, .slice none 0 0, .slice none 0 0, .slice none 0 0, .slice none 0 0] 44)).drewN nq).alloc (.cells #[.slice (some ⟨gb, 4, none⟩) M (c - 4), .bool false, .bool false] 66))) := (below_drewN ((Below.refl _ _).alloc (Nat.le_refl _) _) nq).alloc (by simp) _
  have HZX : Hid ((((w.alloc (.cells #[.int .i64 0, .string ⟨#[]⟩, .int .i64 0, .slice none 0 0, .slice none 0 0, .slice none 0 0, .slice none 0 0, .slice none 0 0, .slice none 0 0, .slice none 0 0, .slice none 0 0, .slice none 0 0] 44)).drewN nq).alloc (.cells #[.slice (some ⟨gb, 4, none⟩) M (c - 4), .bool false, .bool false] 66)).heap[w.heap.size]? = some (.cells #[.int .i64 0, .string ⟨#[]⟩, .int .i64 0, .slice none 0 0, .slice none 0 0, .slice none 0 0, .slice none 0 0, .slice none 0 0, .slice none 0 0, .slice none 0 0, .slice none 0 0, .slice none 0 0] 44)) := by
    have := (Below.heap_alloc ((w.alloc (.cells #[.int .i64 0, .string ⟨#[]⟩, .int .i64 0, .slice none 0 0, .slice none 0 0, .slice none 0 0, .slice none 0 0, .slice none 0 0, .slice none 0 0, .slice none 0 0, .slice none 0 0, .slice none 0 0] 44)).drewN nq) (.cells #[.slice (some ⟨gb, 4, none⟩) M (c - 4), .bool false, .bool false] 66) w.heap.size (by simp)).trans (heap_alloc_new w (.cells #[.int .i64 0, .string ⟨#[]⟩, .int .i64 0, .slice none 0 0, .slice none 0 0, .slice none 0 0, .slice none 0 0, .slice none 0 0, .slice none 0 0, .slice none 0 0, .slice none 0 0, .slice none 0 0] 44))
    exact this
  have hsX : w.heap.size + 1 < (((w.alloc (.cells #[.int .i64 0, .string ⟨#[]⟩, .int .i64 0, .slice none 0 0, .slice none 0 0, .slice none 0 0, .slice none 0 0, .slice none 0 0, .slice none 0 0, .slice none 0 0, .slice none 0 0, .slice none 0 0] 44)).drewN nq).alloc (.cells #[.slice (some ⟨gb, 4, none⟩) M (c - 4), .bool false, .bool false] 66)).heap.size := by simp
  have HSX := Lib.hid hsX
  clear hsX
  generalize (((w.alloc (.cells #[.int .i64 0, .string ⟨#[]⟩, .int .i64 0, .slice none 0 0, .slice none 0 0, .slice none 0 0, .slice none 0 0, .slice none 0 0, .slice none 0 0, .slice none 0 0, .slice none 0 0, .slice none 0 0] 44)).drewN nq).alloc (.cells #[.slice (some ⟨gb, 4, none⟩) M (c - 4), .bool false, .bool false] 66)) = X at *
  rw [HB.out] at HRX
  refine (robject_full X (w.heap.size + 1) false [] gb 4 (c - 4) 1 name rel (by decide) hns HR.out s hs r hr since hsi b1 b2 t ht s hs ar HAR.out d hd HRX.out).mono ?_
  rintro e w1 ⟨bi, ci, bs, cs, ba, ca, rfl, hbi, hbs, hba, ⟨o1, c1, hR⟩, hF⟩
  have hc1 := hR.cell1
  have hc0 := hR.cell0
  rw [List.length_nil] at hc0
  have hZ1 := (hF.block w.heap.size (by have := HSX.out; omega) (by omega)).trans HZX.out
  have hs1 : w.heap.size + 1 < w1.heap.size := Nat.lt_of_lt_of_le HSX.out hF.size
  have hs0 : w.heap.size < w1.heap.size := by omega
  have HZ1 := Lib.hid hZ1
  have HB1 : Hid (Below w.heap.size w w1) := HBX.out.trans ⟨hF.os, hF.tape, hF.output, hF.size, fun k hk => hF.block k (by have := HSX.out; omega) (by omega)⟩
  clear hR hF hZ1
  have Cbi := Lib.hid hbi
  have nbi : w.heap.size ≠ bi := by intro e; have q1 := hbi 0 _ rfl; rw [← e, cell_at HZ1.out 0] at q1; simp at q1
  have Lbi : bi < w1.heap.size := World.block_lt_of_cell? w1 _ (hbi 0 _ rfl)
  have Cbs := Lib.hid hbs
  have nbs : w.heap.size ≠ bs := by intro e; have q1 := hbs 1 _ rfl; rw [← e, cell_at HZ1.out 1] at q1; simp at q1
  have Lbs : bs < w1.heap.size := World.block_lt_of_cell? w1 _ (hbs 1 _ rfl)
  have Cba := Lib.hid hba
  have nba : w.heap.size ≠ ba := by intro e; have q1 := hba 0 _ rfl; rw [← e, cell_at HZ1.out 0] at q1; simp at q1
  have Lba : ba < w1.heap.size := World.block_lt_of_cell? w1 _ (hba 0 _ rfl)
  clear hbi hbs hba
  go_wp2_with fail
  refine (valid_full _ name rel hn hr0 hr1 bi ci _ _ _ ba ca s ar ha0 ha1 d (cell_alloc _ (Cbi.out 0 _ rfl)) (cell_alloc _ (Cba.out 0 _ rfl)) (cell_alloc _ (Cba.out 1 _ rfl)) (cell_alloc _ (Cba.out 2 _ rfl))).mono ?_
  rintro e w2 ⟨rfl, hb⟩
  have hv : ∀ o, w2.cell? ⟨w1.heap.size, o, none⟩ = _ := fun o => hb.cell (p := ⟨w1.heap.size, o, none⟩) (by simp)
  have hZ2 := (hb.block w.heap.size (by simp; omega)).trans ((Below.heap_alloc w1 _ _ hs0).trans HZ1.out)
  have hz0 := cell_at hZ2 0
  have hz1 := cell_at hZ2 1
  have hz2 := cell_at hZ2 2
  have hz3 := cell_at hZ2 3
  have hz4 := cell_at hZ2 4
  have hz5 := cell_at hZ2 5
  have hz6 := cell_at hZ2 6
  have hz7 := cell_at hZ2 7
  have hz8 := cell_at hZ2 8
  have hz9 := cell_at hZ2 9
  have hz10 := cell_at hZ2 10
  have hz11 := cell_at hZ2 11
  simp only [List.getElem?_toArray, List.getElem?_cons_zero, List.getElem?_cons_succ] at hz0 hz1 hz2 hz3 hz4 hz5 hz6 hz7 hz8 hz9 hz10 hz11
  have hfz : ∀ o, w2.frozen? ⟨w.heap.size, o, none⟩ = false := fun o => by simp [World.frozen?, hZ2]
  have hs2 : w1.heap.size < w2.heap.size := by have := hb.size; simp at this; omega
  have HZ2 := Lib.hid hZ2
  have Dbi := Lib.hid (fun j x hx => (hb.cell (p := ⟨bi, j, none⟩) (by simp; omega)).trans (cell_alloc _ (Cbi.out j x hx)))
  have Dbs := Lib.hid (fun j x hx => (hb.cell (p := ⟨bs, j, none⟩) (by simp; omega)).trans (cell_alloc _ (Cbs.out j x hx)))
  have Dba := Lib.hid (fun j x hx => (hb.cell (p := ⟨ba, j, none⟩) (by simp; omega)).trans (cell_alloc _ (Cba.out j x hx)))
  have HB2 := Lib.hid ((HB1.out.alloc (by omega) (.cells #[.int .i64 1, .string name, .int .i64 rel, .slice (some ⟨bi, 0, none⟩) 1 ci, .slice (some ⟨bs, 0, none⟩) 1 cs, .slice none 0 0, .slice none 0 0, .slice none 0 0, .slice none 0 0, .slice none 0 0, .slice none 0 0, .slice (some ⟨ba, 0, none⟩) 1 ca] 44)).trans (hb.mono (by simp; omega)))
  clear hb hZ2
  go_wp2_with fail
  have hB := fin12 HZ2.out (.int .i64 1) (.string name) (.int .i64 rel) (.slice (some ⟨bi, 0, none⟩) 1 ci) (.slice (some ⟨bs, 0, none⟩) 1 cs) (.slice none 0 0) (.slice none 0 0) (.slice none 0 0) (.slice none 0 0) (.slice none 0 0) (.slice none 0 0) (.slice (some ⟨ba, 0, none⟩) 1 ca)
  have f0 := cell_at hB 0
  have f1 := cell_at hB 1
  have f2 := cell_at hB 2
  have f3 := cell_at hB 3
  have f4 := cell_at hB 4
  have f5 := cell_at hB 5
  have f6 := cell_at hB 6
  have f7 := cell_at hB 7
  have f8 := cell_at hB 8
  have f9 := cell_at hB 9
  have f10 := cell_at hB 10
  have f11 := cell_at hB 11
  simp only [List.getElem?_toArray, List.getElem?_cons_zero, List.getElem?_cons_succ] at f0 f1 f2 f3 f4 f5 f6 f7 f8 f9 f10 f11
  refine bodyPost_ret (v := .tuple #[.agg #[.int .i64 1, .string name, .int .i64 rel, .slice (some ⟨bi, 0, none⟩) 1 ci, .slice (some ⟨bs, 0, none⟩) 1 cs, .slice none 0 0, .slice none 0 0, .slice none 0 0, .slice none 0 0, .slice none 0 0, .slice none 0 0, .slice (some ⟨ba, 0, none⟩) 1 ca], .int .i64 0]) (by simp [results, Tryz.results7, go_sem, f0, f1, f2, f3, f4, f5, f6, f7, f8, f9, f10, f11]) rfl ?_
  exact ⟨bi, ci, bs, cs, ba, ca, rfl, fun j x hx => (keep_at nbi (keep_at nbi (keep_at nbi (keep_at nbi (keep_at nbi (keep_at nbi (keep_at nbi (keep_at nbi (keep_at nbi (keep_at nbi (keep_at nbi (keep_at nbi (Dbi.out j x hx))))))))))))), fun j x hx => (keep_at nbs (keep_at nbs (keep_at nbs (keep_at nbs (keep_at nbs (keep_at nbs (keep_at nbs (keep_at nbs (keep_at nbs (keep_at nbs (keep_at nbs (keep_at nbs (Dbs.out j x hx))))))))))))), fun j x hx => (keep_at nba (keep_at nba (keep_at nba (keep_at nba (keep_at nba (keep_at nba (keep_at nba (keep_at nba (keep_at nba (keep_at nba (keep_at nba (keep_at nba (Dba.out j x hx))))))))))))), ((((((((((((HB2.out).setCell (Nat.le_refl _) _).setCell (Nat.le_refl _) _).setCell (Nat.le_refl _) _).setCell (Nat.le_refl _) _).setCell (Nat.le_refl _) _).setCell (Nat.le_refl _) _).setCell (Nat.le_refl _) _).setCell (Nat.le_refl _) _).setCell (Nat.le_refl _) _).setCell (Nat.le_refl _) _).setCell (Nat.le_refl _) _).setCell (Nat.le_refl _) _⟩
end Go.Proofs.YtgliaafiompilabGreatDoor

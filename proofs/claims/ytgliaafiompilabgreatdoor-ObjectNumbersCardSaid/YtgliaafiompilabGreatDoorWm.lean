/- The walks of Encode, the program's and the reference's. -/
import Derived.Test.YtgliaafiompilabGreatDoorWl
namespace Go.Proofs.YtgliaafiompilabGreatDoor
open Go.RowKit Go.Lib

theorem Tryz.u5 : Tryz.prog.underlying 5 = some (.int .u8) := by kernel_rfl

/-- What Encode comes to: the bytes l, and no error. -/
def EPost (w : World) (l : List UInt8) (e : Ending) (w' : World) : Prop :=
  ∃ g c, e = .returned (.tuple #[.slice (some ⟨g, 0, none⟩) l.length c, .int .i64 0]) ∧ Rd w' g 0 l ∧ l.length ≤ c ∧ Below w.heap.size w w'

/-- The writer as Encode makes it: its bytes are the first four. -/
theorem Wr_magic (w : World) (T : TypeId) (tl : List Value) (mk : Nat × Nat) :
    Wr ((w.alloc (.cells #[.int .u8 76, .int .u8 69, .int .u8 79, .int .u8 1] 5 mk)).alloc (.cells (Value.slice (some ⟨w.heap.size, 0, none⟩) 4 4 :: tl).toArray T)) T 5 tl (w.heap.size + 1) magic := by
  have e1 : (w.alloc (.cells #[.int .u8 76, .int .u8 69, .int .u8 79, .int .u8 1] 5 mk)).heap.size = w.heap.size + 1 := by simp
  refine ⟨.slice (some ⟨w.heap.size, 0, none⟩) 4 4, ?_, .inr ⟨w.heap.size, 4, #[.int .u8 76, .int .u8 69, .int .u8 79, .int .u8 1], mk, rfl, ?_, by decide, by decide, rfl, rfl, .inr rfl⟩, ?_⟩
  · rw [← e1]; exact heap_alloc_new _ _
  · rw [Below.heap_alloc _ _ _ (by simp)]; exact heap_alloc_new _ _
  · simp [Value.ownBlock]

theorem bufBlock_magic (w : World) (T : TypeId) (tl : List Value) (mk : Nat × Nat) :
    bufBlock ((w.alloc (.cells #[.int .u8 76, .int .u8 69, .int .u8 79, .int .u8 1] 5 mk)).alloc (.cells (Value.slice (some ⟨w.heap.size, 0, none⟩) 4 4 :: tl).toArray T)) (w.heap.size + 1) = some w.heap.size := by
  have e1 : (w.alloc (.cells #[.int .u8 76, .int .u8 69, .int .u8 79, .int .u8 1] 5 mk)).heap.size = w.heap.size + 1 := by simp
  have := bufBlock_of (p := w.heap.size + 1) (T := T) (v := .slice (some ⟨w.heap.size, 0, none⟩) 4 4) (tl := tl) (mk := (0, 0)) (w := (w.alloc (.cells #[.int .u8 76, .int .u8 69, .int .u8 79, .int .u8 1] 5 mk)).alloc (.cells (Value.slice (some ⟨w.heap.size, 0, none⟩) 4 4 :: tl).toArray T)) (by rw [← e1]; exact heap_alloc_new _ _)
  rw [this]; rfl

/-- A block that was there lies apart from the new writer. -/
theorem Apart_magic (w : World) (T : TypeId) (tl : List Value) (mk : Nat × Nat) {k : Nat} (h : k < w.heap.size) :
    Apart (w.heap.size + 1) ((w.alloc (.cells #[.int .u8 76, .int .u8 69, .int .u8 79, .int .u8 1] 5 mk)).alloc (.cells (Value.slice (some ⟨w.heap.size, 0, none⟩) 4 4 :: tl).toArray T)) k :=
  ⟨by simp; omega, by omega, by rw [bufBlock_magic]; simp; omega⟩

theorem len_test1 (n : Nat) (h : n ≤ 50004) : decide ((200000 : Int) < wrap64 ((n : Int) + 8)) = false := by
  have e : wrap64 ((n : Int) + 8) = (n : Int) + 8 := IntWalk.wrap64_in _ ⟨by omega, by omega⟩
  rw [e]
  simp only [decide_eq_false_iff_not]
  omega
theorem len_test2 (n : Nat) (h : n ≤ 50012) : decide ((200000 : Int) < (n : Int)) = false := by
  simp only [decide_eq_false_iff_not]
  omega
theorem len_test3 (n : Nat) (h : n ≤ 50012) : decide (200000 < n) = false := by
  simp only [decide_eq_false_iff_not]
  omega

theorem Short.body {k : Nat} {l : List UInt8} (h : l.length + k ≤ 2900000) : Short k (magic ++ l) := by
  unfold Short
  rw [List.length_append]
  have : magic.length = 4 := rfl
  omega

set_option maxRecDepth 100000 in
set_option maxHeartbeats 4000000 in
theorem encode_full (w : World) (name : ByteArray) (rel : Int) (hn : name.toList.isEmpty = false) (hr0 : 0 ≤ rel) (hr1 : rel ≤ 1000) (s : ByteArray) (r : Int) (hr : I64 r) (since : Int) (b1 b2 : Bool) (t : ByteArray) (hsi : I64 since) (bi ci bs cs : Nat) (ar : Int) (d : Nat) (ha0 : 1 ≤ ar) (ha1 : ar ≤ 1000) (hd : U64 d) (ba ca : Nat) (hsz : name.size + 2 * s.size + t.size ≤ 10000) (hbi0 : w.cell? ⟨bi, 0, none⟩ = some (.string s)) (hbi1 : w.cell? ⟨bi, 1, none⟩ = some (.int .i64 r)) (hbs0 : w.cell? ⟨bs, 0, none⟩ = some (.int .i64 since)) (hbs1 : w.cell? ⟨bs, 1, none⟩ = some (.bool b1)) (hbs2 : w.cell? ⟨bs, 2, none⟩ = some (.bool b2)) (hbs3 : w.cell? ⟨bs, 3, none⟩ = some (.string t)) (hbs4 : w.cell? ⟨bs, 4, none⟩ = some (.slice none 0 0)) (hbs5 : w.cell? ⟨bs, 5, none⟩ = some (.slice none 0 0)) (hba0 : w.cell? ⟨ba, 0, none⟩ = some (.string s)) (hba1 : w.cell? ⟨ba, 1, none⟩ = some (.int .i64 ar)) (hba2 : w.cell? ⟨ba, 2, none⟩ = some (.int .u64 d)) :
    Calls Tryz.prog 5 #[.agg #[.int .i64 1, .string name, .int .i64 rel, .slice (some ⟨bi, 0, none⟩) 1 ci, .slice (some ⟨bs, 0, none⟩) 1 cs, .slice none 0 0, .slice none 0 0, .slice none 0 0, .slice none 0 0, .slice none 0 0, .slice none 0 0, .slice (some ⟨ba, 0, none⟩) 1 ca]] w (EPost w (file (encObject (encModule 1 name rel (enc 1 ++ (encS s.data.toList ++ enc r)) (enc 1 ++ encStruct since b1 b2 t)) (enc 1 ++ (encS s.data.toList ++ (enc ar ++ lb d)))))) := by
  have hrel : I64 rel := ⟨by omega, by omega⟩
  have HR := Lib.hid hrel
  clear hrel
  have HBL : Hid ((encObject (encModule 1 name rel (enc 1 ++ (encS s.data.toList ++ enc r)) (enc 1 ++ encStruct since b1 b2 t)) (enc 1 ++ (encS s.data.toList ++ (enc ar ++ lb d)))).length ≤ 50000) := by
    have q0 := encModule_le (kind := 1) (name := name) (imps := (enc 1 ++ (encS s.data.toList ++ enc r))) (strs := (enc 1 ++ encStruct since b1 b2 t)) (by decide) HR.out (show I64 (name.size : Int) from ⟨by omega, by omega⟩)
    have q1 := imps_le (s := s) hr (show I64 (s.size : Int) from ⟨by omega, by omega⟩)
    have q2 := strs_le (s := t) (b1 := b1) (b2 := b2) hsi (show I64 (t.size : Int) from ⟨by omega, by omega⟩)
    have q3 := against_le (s := s) (d := d) (r := ar) (show I64 ar from ⟨by omega, by omega⟩) (show I64 (s.size : Int) from ⟨by omega, by omega⟩)
    have q4 := enc0_len
    unfold encObject
    simp only [List.length_append] at *
    show _ ≤ _
    omega
  have HAR : Hid (I64 ar) := ⟨by omega, by omega⟩
  have sbi : bi < w.heap.size := World.block_lt_of_cell? w _ hbi0
  have Hbi0 := Lib.hid hbi0
  have Hbi1 := Lib.hid hbi1
  have sbs : bs < w.heap.size := World.block_lt_of_cell? w _ hbs0
  have Hbs0 := Lib.hid hbs0
  have Hbs1 := Lib.hid hbs1
  have Hbs2 := Lib.hid hbs2
  have Hbs3 := Lib.hid hbs3
  have Hbs4 := Lib.hid hbs4
  have Hbs5 := Lib.hid hbs5
  have sba : ba < w.heap.size := World.block_lt_of_cell? w _ hba0
  have Hba0 := Lib.hid hba0
  have Hba1 := Lib.hid hba1
  have Hba2 := Lib.hid hba2
  clear hbi0 hbi1
  clear hbs0 hbs1 hbs2 hbs3 hbs4 hbs5
  clear hba0 hba1 hba2
  have kc := fun (w : World) (C : Array Value) (n c : Nat) => Lib.run_convert_bytes_const (P := Tryz.prog) w 45 5 C n c Tryz.u45 Tryz.u5
  go_enter Tryz.func5, Tryz.ntmps5
  go_wp2_with fail
  refine (valid_full _ name rel hn hr0 hr1 bi ci _ _ _ ba ca s ar ha0 ha1 d (cell_alloc _ Hbi0.out) (cell_alloc _ Hba0.out) (cell_alloc _ Hba1.out) (cell_alloc _ Hba2.out)).mono ?_
  rintro e w1 ⟨rfl, hb⟩
  have z0 : w.heap.size < w1.heap.size := by have := hb.size; simp at this; omega
  have k0 : ∀ o, w1.cell? ⟨w.heap.size, o, none⟩ = _ := fun o => hb.cell (p := ⟨w.heap.size, o, none⟩) (by simp)
  have Kbi0 := Lib.hid (cell_alloc (.cells (Value.slice (some ⟨w1.heap.size, 0, none⟩) 4 4 :: [.bool false]).toArray 56) (cell_alloc (.cells #[.int .u8 76, .int .u8 69, .int .u8 79, .int .u8 1] 5 (4, 5)) ((hb.cell (p := ⟨bi, 0, none⟩) (by simp; omega)).trans (cell_alloc _ Hbi0.out))))
  have Kbi1 := Lib.hid (cell_alloc (.cells (Value.slice (some ⟨w1.heap.size, 0, none⟩) 4 4 :: [.bool false]).toArray 56) (cell_alloc (.cells #[.int .u8 76, .int .u8 69, .int .u8 79, .int .u8 1] 5 (4, 5)) ((hb.cell (p := ⟨bi, 1, none⟩) (by simp; omega)).trans (cell_alloc _ Hbi1.out))))
  have HAbi := Lib.hid (Apart_magic w1 56 [.bool false] (4, 5) (k := bi) (by omega))
  have Kbs0 := Lib.hid (cell_alloc (.cells (Value.slice (some ⟨w1.heap.size, 0, none⟩) 4 4 :: [.bool false]).toArray 56) (cell_alloc (.cells #[.int .u8 76, .int .u8 69, .int .u8 79, .int .u8 1] 5 (4, 5)) ((hb.cell (p := ⟨bs, 0, none⟩) (by simp; omega)).trans (cell_alloc _ Hbs0.out))))
  have Kbs1 := Lib.hid (cell_alloc (.cells (Value.slice (some ⟨w1.heap.size, 0, none⟩) 4 4 :: [.bool false]).toArray 56) (cell_alloc (.cells #[.int .u8 76, .int .u8 69, .int .u8 79, .int .u8 1] 5 (4, 5)) ((hb.cell (p := ⟨bs, 1, none⟩) (by simp; omega)).trans (cell_alloc _ Hbs1.out))))
  have Kbs2 := Lib.hid (cell_alloc (.cells (Value.slice (some ⟨w1.heap.size, 0, none⟩) 4 4 :: [.bool false]).toArray 56) (cell_alloc (.cells #[.int .u8 76, .int .u8 69, .int .u8 79, .int .u8 1] 5 (4, 5)) ((hb.cell (p := ⟨bs, 2, none⟩) (by simp; omega)).trans (cell_alloc _ Hbs2.out))))
  have Kbs3 := Lib.hid (cell_alloc (.cells (Value.slice (some ⟨w1.heap.size, 0, none⟩) 4 4 :: [.bool false]).toArray 56) (cell_alloc (.cells #[.int .u8 76, .int .u8 69, .int .u8 79, .int .u8 1] 5 (4, 5)) ((hb.cell (p := ⟨bs, 3, none⟩) (by simp; omega)).trans (cell_alloc _ Hbs3.out))))
  have Kbs4 := Lib.hid (cell_alloc (.cells (Value.slice (some ⟨w1.heap.size, 0, none⟩) 4 4 :: [.bool false]).toArray 56) (cell_alloc (.cells #[.int .u8 76, .int .u8 69, .int .u8 79, .int .u8 1] 5 (4, 5)) ((hb.cell (p := ⟨bs, 4, none⟩) (by simp; omega)).trans (cell_alloc _ Hbs4.out))))
  have Kbs5 := Lib.hid (cell_alloc (.cells (Value.slice (some ⟨w1.heap.size, 0, none⟩) 4 4 :: [.bool false]).toArray 56) (cell_alloc (.cells #[.int .u8 76, .int .u8 69, .int .u8 79, .int .u8 1] 5 (4, 5)) ((hb.cell (p := ⟨bs, 5, none⟩) (by simp; omega)).trans (cell_alloc _ Hbs5.out))))
  have HAbs := Lib.hid (Apart_magic w1 56 [.bool false] (4, 5) (k := bs) (by omega))
  have Kba0 := Lib.hid (cell_alloc (.cells (Value.slice (some ⟨w1.heap.size, 0, none⟩) 4 4 :: [.bool false]).toArray 56) (cell_alloc (.cells #[.int .u8 76, .int .u8 69, .int .u8 79, .int .u8 1] 5 (4, 5)) ((hb.cell (p := ⟨ba, 0, none⟩) (by simp; omega)).trans (cell_alloc _ Hba0.out))))
  have Kba1 := Lib.hid (cell_alloc (.cells (Value.slice (some ⟨w1.heap.size, 0, none⟩) 4 4 :: [.bool false]).toArray 56) (cell_alloc (.cells #[.int .u8 76, .int .u8 69, .int .u8 79, .int .u8 1] 5 (4, 5)) ((hb.cell (p := ⟨ba, 1, none⟩) (by simp; omega)).trans (cell_alloc _ Hba1.out))))
  have Kba2 := Lib.hid (cell_alloc (.cells (Value.slice (some ⟨w1.heap.size, 0, none⟩) 4 4 :: [.bool false]).toArray 56) (cell_alloc (.cells #[.int .u8 76, .int .u8 69, .int .u8 79, .int .u8 1] 5 (4, 5)) ((hb.cell (p := ⟨ba, 2, none⟩) (by simp; omega)).trans (cell_alloc _ Hba2.out))))
  have HAba := Lib.hid (Apart_magic w1 56 [.bool false] (4, 5) (k := ba) (by omega))
  have HB := Lib.hid (((Below.refl w.heap.size w).alloc (Nat.le_refl _) (.cells #[.int .i64 1, .string name, .int .i64 rel, .slice (some ⟨bi, 0, none⟩) 1 ci, .slice (some ⟨bs, 0, none⟩) 1 cs, .slice none 0 0, .slice none 0 0, .slice none 0 0, .slice none 0 0, .slice none 0 0, .slice none 0 0, .slice (some ⟨ba, 0, none⟩) 1 ca] 44)).trans (hb.mono (by simp)))
  clear hb
  have HM := Lib.hid (Wr_magic w1 56 [.bool false] (4, 5))
  have HAB := Lib.hid (Apart_magic w1 56 [.bool false] (4, 5) (k := w.heap.size) z0)
  have HBB := Lib.hid (bufBlock_magic w1 56 [.bool false] (4, 5))
  go_wp2_with fail
  refine (object_full (w1.heap.size + 1) false magic _ HM.out 1 name rel (by decide) HR.out s r hr since b1 b2 t hsi bi ci bs cs s ar d HAR.out hd ba ca (show Short _ ([] ++ magic) by unfold Short; simp [magic]; omega) Kbi0.out Kbi1.out HAbi.out Kbs0.out Kbs1.out Kbs2.out Kbs3.out Kbs4.out Kbs5.out HAbs.out Kba0.out Kba1.out Kba2.out HAba.out).mono ?_
  rintro e w2 ⟨rfl, hW2, hS2⟩
  have HS2 := Lib.hid hS2
  have k2 := hS2.cellA HAB.out
  obtain ⟨g, c, hA, hc, hRd, hgc⟩ := Wr.at2 (l := magic ++ (encObject (encModule 1 name rel (enc 1 ++ (encS s.data.toList ++ enc r)) (enc 1 ++ encStruct since b1 b2 t)) (enc 1 ++ (encS s.data.toList ++ (enc ar ++ lb d))))) hW2 (by rw [List.length_append]; show 0 < 4 + _; omega)
  have HA := Lib.hid hA
  have HRd := Lib.hid hRd
  clear hW2 hS2 hA hRd
  have HL2 : Hid (Short 100 (magic ++ (encObject (encModule 1 name rel (enc 1 ++ (encS s.data.toList ++ enc r)) (enc 1 ++ encStruct since b1 b2 t)) (enc 1 ++ (encS s.data.toList ++ (enc ar ++ lb d)))))) := Short.body (by have := HBL.out; omega)
  have hlt : (magic ++ (encObject (encModule 1 name rel (enc 1 ++ (encS s.data.toList ++ enc r)) (enc 1 ++ encStruct since b1 b2 t)) (enc 1 ++ (encS s.data.toList ++ (enc ar ++ lb d))))).length ≤ 50004 := by rw [List.length_append]; have := HBL.out; have e4 : magic.length = 4 := rfl; omega
  have HF : Hid (file (encObject (encModule 1 name rel (enc 1 ++ (encS s.data.toList ++ enc r)) (enc 1 ++ encStruct since b1 b2 t)) (enc 1 ++ (encS s.data.toList ++ (enc ar ++ lb d)))) = magic ++ (encObject (encModule 1 name rel (enc 1 ++ (encS s.data.toList ++ enc r)) (enc 1 ++ encStruct since b1 b2 t)) (enc 1 ++ (encS s.data.toList ++ (enc ar ++ lb d)))) ++ lb (fsum (magic ++ (encObject (encModule 1 name rel (enc 1 ++ (encS s.data.toList ++ enc r)) (enc 1 ++ encStruct since b1 b2 t)) (enc 1 ++ (encS s.data.toList ++ (enc ar ++ lb d))))))) := rfl
  generalize (encObject (encModule 1 name rel (enc 1 ++ (encS s.data.toList ++ enc r)) (enc 1 ++ encStruct since b1 b2 t)) (enc 1 ++ (encS s.data.toList ++ (enc ar ++ lb d)))) = body at *
  generalize hm : magic ++ body = mb at *
  have HM2 := Lib.hid hm
  have hT1 := len_test1 mb.length hlt
  have HLT := Lib.hid hlt
  clear hm hlt hgc
  go_wp2_with fail
  refine (sum_any _ g 0 c mb HRd.out (HL2.out.mono (by omega))).mono ?_
  rintro e w3 ⟨rfl, rfl⟩
  have hU : U64 (fsum mb) := fsumTo_lt _ _
  generalize fsum mb = fs at *
  go_wp2_with fail
  refine (long_any (w1.heap.size + 1) false fs mb _ HA.out.wr hU (HL2.out.mono (by omega))).mono ?_
  rintro e w4 ⟨rfl, hW4, hS4⟩
  have HS4 := Lib.hid (HS2.out.trans hS4)
  have hlb : (lb fs).length = 8 := lbTo_len fs 8
  obtain ⟨g4, c4, hA4, hc4, hRd4, hgc4⟩ := hW4.at2 (by rw [List.length_append, hlb]; omega)
  have hlt4 : (mb ++ lb fs).length ≤ 50012 := by rw [List.length_append, hlb]; have := HLT.out; omega
  have hT2 := len_test2 (mb ++ lb fs).length hlt4
  have hT3 := len_test3 (mb ++ lb fs).length hlt4
  have HRd4 := Lib.hid hRd4
  have HLB := Lib.hid hlb
  have HGC4 := Lib.hid hgc4
  clear hW4 hS4 hA4 hRd4 hlb hlt4 hgc4
  have HF2 := Lib.hid (show file body = mb ++ lb fs from HF.out)
  clear HF
  generalize mb ++ lb fs = fl at *
  go_wp2_with fail
  go_ret2
  rw [HF2.out]
  exact ⟨g4, c4, rfl, HRd4.out, HGC4.out, ((HB.out.alloc (by omega) _).alloc (by simp; omega) _).trans ((HS4.out.below (B := w.heap.size) (by omega) (by simp; omega) (fun k hk => by rw [HBB.out] at hk; simp at hk; omega)))⟩

set_option maxRecDepth 100000 in
set_option maxHeartbeats 4000000 in
theorem encode_bare (w : World) (name : ByteArray) (rel : Int) (hn : name.toList.isEmpty = false) (hr0 : 0 ≤ rel) (hr1 : rel ≤ 1000) (hsz : name.size ≤ 10000) :
    Calls Tryz.prog 5 #[.agg #[.int .i64 2, .string name, .int .i64 rel, .slice none 0 0, .slice none 0 0, .slice none 0 0, .slice none 0 0, .slice none 0 0, .slice none 0 0, .slice none 0 0, .slice none 0 0, .slice none 0 0]] w (EPost w (file (encObject (encModule 2 name rel (enc 0) (enc 0)) (enc 0)))) := by
  have hrel : I64 rel := ⟨by omega, by omega⟩
  have HR := Lib.hid hrel
  clear hrel
  have HBL : Hid ((encObject (encModule 2 name rel (enc 0) (enc 0)) (enc 0)).length ≤ 50000) := by
    have q0 := encModule_le (kind := 2) (name := name) (imps := (enc 0)) (strs := (enc 0)) (by decide) HR.out (show I64 (name.size : Int) from ⟨by omega, by omega⟩)
    have q4 := enc0_len
    unfold encObject
    simp only [List.length_append] at *
    show _ ≤ _
    omega
  have kc := fun (w : World) (C : Array Value) (n c : Nat) => Lib.run_convert_bytes_const (P := Tryz.prog) w 45 5 C n c Tryz.u45 Tryz.u5
  go_enter Tryz.func5, Tryz.ntmps5
  go_wp2_with fail
  refine (valid_bare _ name rel hn hr0 hr1 ).mono ?_
  rintro e w1 ⟨rfl, hb⟩
  have z0 : w.heap.size < w1.heap.size := by have := hb.size; simp at this; omega
  have k0 : ∀ o, w1.cell? ⟨w.heap.size, o, none⟩ = _ := fun o => hb.cell (p := ⟨w.heap.size, o, none⟩) (by simp)
  have HB := Lib.hid (((Below.refl w.heap.size w).alloc (Nat.le_refl _) (.cells #[.int .i64 2, .string name, .int .i64 rel, .slice none 0 0, .slice none 0 0, .slice none 0 0, .slice none 0 0, .slice none 0 0, .slice none 0 0, .slice none 0 0, .slice none 0 0, .slice none 0 0] 44)).trans (hb.mono (by simp)))
  clear hb
  have HM := Lib.hid (Wr_magic w1 56 [.bool false] (4, 5))
  have HAB := Lib.hid (Apart_magic w1 56 [.bool false] (4, 5) (k := w.heap.size) z0)
  have HBB := Lib.hid (bufBlock_magic w1 56 [.bool false] (4, 5))
  go_wp2_with fail
  refine (object_bare (w1.heap.size + 1) false magic _ HM.out 2 name rel (by decide) HR.out (show Short _ ([] ++ magic) by unfold Short; simp [magic]; omega)).mono ?_
  rintro e w2 ⟨rfl, hW2, hS2⟩
  have HS2 := Lib.hid hS2
  have k2 := hS2.cellA HAB.out
  obtain ⟨g, c, hA, hc, hRd, hgc⟩ := Wr.at2 (l := magic ++ (encObject (encModule 2 name rel (enc 0) (enc 0)) (enc 0))) hW2 (by rw [List.length_append]; show 0 < 4 + _; omega)
  have HA := Lib.hid hA
  have HRd := Lib.hid hRd
  clear hW2 hS2 hA hRd
  have HL2 : Hid (Short 100 (magic ++ (encObject (encModule 2 name rel (enc 0) (enc 0)) (enc 0)))) := Short.body (by have := HBL.out; omega)
  have hlt : (magic ++ (encObject (encModule 2 name rel (enc 0) (enc 0)) (enc 0))).length ≤ 50004 := by rw [List.length_append]; have := HBL.out; have e4 : magic.length = 4 := rfl; omega
  have HF : Hid (file (encObject (encModule 2 name rel (enc 0) (enc 0)) (enc 0)) = magic ++ (encObject (encModule 2 name rel (enc 0) (enc 0)) (enc 0)) ++ lb (fsum (magic ++ (encObject (encModule 2 name rel (enc 0) (enc 0)) (enc 0))))) := rfl
  generalize (encObject (encModule 2 name rel (enc 0) (enc 0)) (enc 0)) = body at *
  generalize hm : magic ++ body = mb at *
  have HM2 := Lib.hid hm
  have hT1 := len_test1 mb.length hlt
  have HLT := Lib.hid hlt
  clear hm hlt hgc
  go_wp2_with fail
  refine (sum_any _ g 0 c mb HRd.out (HL2.out.mono (by omega))).mono ?_
  rintro e w3 ⟨rfl, rfl⟩
  have hU : U64 (fsum mb) := fsumTo_lt _ _
  generalize fsum mb = fs at *
  go_wp2_with fail
  refine (long_any (w1.heap.size + 1) false fs mb _ HA.out.wr hU (HL2.out.mono (by omega))).mono ?_
  rintro e w4 ⟨rfl, hW4, hS4⟩
  have HS4 := Lib.hid (HS2.out.trans hS4)
  have hlb : (lb fs).length = 8 := lbTo_len fs 8
  obtain ⟨g4, c4, hA4, hc4, hRd4, hgc4⟩ := hW4.at2 (by rw [List.length_append, hlb]; omega)
  have hlt4 : (mb ++ lb fs).length ≤ 50012 := by rw [List.length_append, hlb]; have := HLT.out; omega
  have hT2 := len_test2 (mb ++ lb fs).length hlt4
  have hT3 := len_test3 (mb ++ lb fs).length hlt4
  have HRd4 := Lib.hid hRd4
  have HLB := Lib.hid hlb
  have HGC4 := Lib.hid hgc4
  clear hW4 hS4 hA4 hRd4 hlb hlt4 hgc4
  have HF2 := Lib.hid (show file body = mb ++ lb fs from HF.out)
  clear HF
  generalize mb ++ lb fs = fl at *
  go_wp2_with fail
  go_ret2
  rw [HF2.out]
  exact ⟨g4, c4, rfl, HRd4.out, HGC4.out, ((HB.out.alloc (by omega) _).alloc (by simp; omega) _).trans ((HS4.out.below (B := w.heap.size) (by omega) (by simp; omega) (fun k hk => by rw [HBB.out] at hk; simp at hk; omega)))⟩

set_option maxRecDepth 100000 in
set_option maxHeartbeats 4000000 in
theorem oencode_full (w : World) (name : ByteArray) (rel : Int) (hn : name.toList.isEmpty = false) (hr0 : 0 ≤ rel) (hr1 : rel ≤ 1000) (s : ByteArray) (r : Int) (hr : I64 r) (since : Int) (b1 b2 : Bool) (t : ByteArray) (hsi : I64 since) (bi ci bs cs : Nat) (ar : Int) (d : Nat) (ha0 : 1 ≤ ar) (ha1 : ar ≤ 1000) (hd : U64 d) (ba ca : Nat) (hsz : name.size + 2 * s.size + t.size ≤ 10000) (hbi0 : w.cell? ⟨bi, 0, none⟩ = some (.string s)) (hbi1 : w.cell? ⟨bi, 1, none⟩ = some (.int .i64 r)) (hbs0 : w.cell? ⟨bs, 0, none⟩ = some (.int .i64 since)) (hbs1 : w.cell? ⟨bs, 1, none⟩ = some (.bool b1)) (hbs2 : w.cell? ⟨bs, 2, none⟩ = some (.bool b2)) (hbs3 : w.cell? ⟨bs, 3, none⟩ = some (.string t)) (hbs4 : w.cell? ⟨bs, 4, none⟩ = some (.slice none 0 0)) (hbs5 : w.cell? ⟨bs, 5, none⟩ = some (.slice none 0 0)) (hba0 : w.cell? ⟨ba, 0, none⟩ = some (.string s)) (hba1 : w.cell? ⟨ba, 1, none⟩ = some (.int .i64 ar)) (hba2 : w.cell? ⟨ba, 2, none⟩ = some (.int .u64 d)) :
    Calls Tryz.prog 6 #[.agg #[.int .i64 1, .string name, .int .i64 rel, .slice (some ⟨bi, 0, none⟩) 1 ci, .slice (some ⟨bs, 0, none⟩) 1 cs, .slice none 0 0, .slice none 0 0, .slice none 0 0, .slice none 0 0, .slice none 0 0, .slice none 0 0, .slice (some ⟨ba, 0, none⟩) 1 ca]] w (EPost w (file (encObject (encModule 1 name rel (enc 1 ++ (encS s.data.toList ++ enc r)) (enc 1 ++ encStruct since b1 b2 t)) (enc 1 ++ (encS s.data.toList ++ (enc ar ++ lb d)))))) := by
  have hrel : I64 rel := ⟨by omega, by omega⟩
  have HR := Lib.hid hrel
  clear hrel
  have HBL : Hid ((encObject (encModule 1 name rel (enc 1 ++ (encS s.data.toList ++ enc r)) (enc 1 ++ encStruct since b1 b2 t)) (enc 1 ++ (encS s.data.toList ++ (enc ar ++ lb d)))).length ≤ 50000) := by
    have q0 := encModule_le (kind := 1) (name := name) (imps := (enc 1 ++ (encS s.data.toList ++ enc r))) (strs := (enc 1 ++ encStruct since b1 b2 t)) (by decide) HR.out (show I64 (name.size : Int) from ⟨by omega, by omega⟩)
    have q1 := imps_le (s := s) hr (show I64 (s.size : Int) from ⟨by omega, by omega⟩)
    have q2 := strs_le (s := t) (b1 := b1) (b2 := b2) hsi (show I64 (t.size : Int) from ⟨by omega, by omega⟩)
    have q3 := against_le (s := s) (d := d) (r := ar) (show I64 ar from ⟨by omega, by omega⟩) (show I64 (s.size : Int) from ⟨by omega, by omega⟩)
    have q4 := enc0_len
    unfold encObject
    simp only [List.length_append] at *
    show _ ≤ _
    omega
  have HAR : Hid (I64 ar) := ⟨by omega, by omega⟩
  have sbi : bi < w.heap.size := World.block_lt_of_cell? w _ hbi0
  have Hbi0 := Lib.hid hbi0
  have Hbi1 := Lib.hid hbi1
  have sbs : bs < w.heap.size := World.block_lt_of_cell? w _ hbs0
  have Hbs0 := Lib.hid hbs0
  have Hbs1 := Lib.hid hbs1
  have Hbs2 := Lib.hid hbs2
  have Hbs3 := Lib.hid hbs3
  have Hbs4 := Lib.hid hbs4
  have Hbs5 := Lib.hid hbs5
  have sba : ba < w.heap.size := World.block_lt_of_cell? w _ hba0
  have Hba0 := Lib.hid hba0
  have Hba1 := Lib.hid hba1
  have Hba2 := Lib.hid hba2
  clear hbi0 hbi1
  clear hbs0 hbs1 hbs2 hbs3 hbs4 hbs5
  clear hba0 hba1 hba2
  go_enter Tryz.func6, Tryz.ntmps6
  go_wp2_with fail
  refine (ovalid_full _ name rel hn hr0 hr1 bi ci _ _ _ ba ca s ar ha0 ha1 d (cell_alloc _ Hbi0.out) (cell_alloc _ Hba0.out) (cell_alloc _ Hba1.out) (cell_alloc _ Hba2.out)).mono ?_
  rintro e w1 ⟨rfl, hb⟩
  have z0 : w.heap.size < w1.heap.size := by have := hb.size; simp at this; omega
  have k0 : ∀ o, w1.cell? ⟨w.heap.size, o, none⟩ = _ := fun o => hb.cell (p := ⟨w.heap.size, o, none⟩) (by simp)
  have Kbi0 := Lib.hid (cell_alloc (.cells (Value.slice (some ⟨w1.heap.size, 0, none⟩) 4 4 :: []).toArray 62) (cell_alloc (.cells #[.int .u8 76, .int .u8 69, .int .u8 79, .int .u8 1] 5 (0, 0)) ((hb.cell (p := ⟨bi, 0, none⟩) (by simp; omega)).trans (cell_alloc _ Hbi0.out))))
  have Kbi1 := Lib.hid (cell_alloc (.cells (Value.slice (some ⟨w1.heap.size, 0, none⟩) 4 4 :: []).toArray 62) (cell_alloc (.cells #[.int .u8 76, .int .u8 69, .int .u8 79, .int .u8 1] 5 (0, 0)) ((hb.cell (p := ⟨bi, 1, none⟩) (by simp; omega)).trans (cell_alloc _ Hbi1.out))))
  have HAbi := Lib.hid (Apart_magic w1 62 [] (0, 0) (k := bi) (by omega))
  have Kbs0 := Lib.hid (cell_alloc (.cells (Value.slice (some ⟨w1.heap.size, 0, none⟩) 4 4 :: []).toArray 62) (cell_alloc (.cells #[.int .u8 76, .int .u8 69, .int .u8 79, .int .u8 1] 5 (0, 0)) ((hb.cell (p := ⟨bs, 0, none⟩) (by simp; omega)).trans (cell_alloc _ Hbs0.out))))
  have Kbs1 := Lib.hid (cell_alloc (.cells (Value.slice (some ⟨w1.heap.size, 0, none⟩) 4 4 :: []).toArray 62) (cell_alloc (.cells #[.int .u8 76, .int .u8 69, .int .u8 79, .int .u8 1] 5 (0, 0)) ((hb.cell (p := ⟨bs, 1, none⟩) (by simp; omega)).trans (cell_alloc _ Hbs1.out))))
  have Kbs2 := Lib.hid (cell_alloc (.cells (Value.slice (some ⟨w1.heap.size, 0, none⟩) 4 4 :: []).toArray 62) (cell_alloc (.cells #[.int .u8 76, .int .u8 69, .int .u8 79, .int .u8 1] 5 (0, 0)) ((hb.cell (p := ⟨bs, 2, none⟩) (by simp; omega)).trans (cell_alloc _ Hbs2.out))))
  have Kbs3 := Lib.hid (cell_alloc (.cells (Value.slice (some ⟨w1.heap.size, 0, none⟩) 4 4 :: []).toArray 62) (cell_alloc (.cells #[.int .u8 76, .int .u8 69, .int .u8 79, .int .u8 1] 5 (0, 0)) ((hb.cell (p := ⟨bs, 3, none⟩) (by simp; omega)).trans (cell_alloc _ Hbs3.out))))
  have Kbs4 := Lib.hid (cell_alloc (.cells (Value.slice (some ⟨w1.heap.size, 0, none⟩) 4 4 :: []).toArray 62) (cell_alloc (.cells #[.int .u8 76, .int .u8 69, .int .u8 79, .int .u8 1] 5 (0, 0)) ((hb.cell (p := ⟨bs, 4, none⟩) (by simp; omega)).trans (cell_alloc _ Hbs4.out))))
  have Kbs5 := Lib.hid (cell_alloc (.cells (Value.slice (some ⟨w1.heap.size, 0, none⟩) 4 4 :: []).toArray 62) (cell_alloc (.cells #[.int .u8 76, .int .u8 69, .int .u8 79, .int .u8 1] 5 (0, 0)) ((hb.cell (p := ⟨bs, 5, none⟩) (by simp; omega)).trans (cell_alloc _ Hbs5.out))))
  have HAbs := Lib.hid (Apart_magic w1 62 [] (0, 0) (k := bs) (by omega))
  have Kba0 := Lib.hid (cell_alloc (.cells (Value.slice (some ⟨w1.heap.size, 0, none⟩) 4 4 :: []).toArray 62) (cell_alloc (.cells #[.int .u8 76, .int .u8 69, .int .u8 79, .int .u8 1] 5 (0, 0)) ((hb.cell (p := ⟨ba, 0, none⟩) (by simp; omega)).trans (cell_alloc _ Hba0.out))))
  have Kba1 := Lib.hid (cell_alloc (.cells (Value.slice (some ⟨w1.heap.size, 0, none⟩) 4 4 :: []).toArray 62) (cell_alloc (.cells #[.int .u8 76, .int .u8 69, .int .u8 79, .int .u8 1] 5 (0, 0)) ((hb.cell (p := ⟨ba, 1, none⟩) (by simp; omega)).trans (cell_alloc _ Hba1.out))))
  have Kba2 := Lib.hid (cell_alloc (.cells (Value.slice (some ⟨w1.heap.size, 0, none⟩) 4 4 :: []).toArray 62) (cell_alloc (.cells #[.int .u8 76, .int .u8 69, .int .u8 79, .int .u8 1] 5 (0, 0)) ((hb.cell (p := ⟨ba, 2, none⟩) (by simp; omega)).trans (cell_alloc _ Hba2.out))))
  have HAba := Lib.hid (Apart_magic w1 62 [] (0, 0) (k := ba) (by omega))
  have HB := Lib.hid (((Below.refl w.heap.size w).alloc (Nat.le_refl _) (.cells #[.int .i64 1, .string name, .int .i64 rel, .slice (some ⟨bi, 0, none⟩) 1 ci, .slice (some ⟨bs, 0, none⟩) 1 cs, .slice none 0 0, .slice none 0 0, .slice none 0 0, .slice none 0 0, .slice none 0 0, .slice none 0 0, .slice (some ⟨ba, 0, none⟩) 1 ca] 44)).trans (hb.mono (by simp)))
  clear hb
  have HM := Lib.hid (Wr_magic w1 62 [] (0, 0))
  have HAB := Lib.hid (Apart_magic w1 62 [] (0, 0) (k := w.heap.size) z0)
  have HBB := Lib.hid (bufBlock_magic w1 62 [] (0, 0))
  go_wp2_with fail
  refine (omodule_full (w1.heap.size + 1) magic _ HM.out 1 name rel (by decide) HR.out s r hr since b1 b2 t hsi bi ci bs cs (show Short _ ([] ++ magic) by unfold Short; simp [magic]; omega) Kbi0.out Kbi1.out HAbi.out Kbs0.out Kbs1.out Kbs2.out Kbs3.out Kbs4.out Kbs5.out HAbs.out).mono ?_
  rintro e wm ⟨rfl, hWm, hSm⟩
  have km := hSm.cellA HAB.out
  have zm : w.heap.size < wm.heap.size := (hSm.apart HAB.out).1
  have HWm := Lib.hid hWm
  have HSm := Lib.hid hSm
  clear hWm hSm
  have HLm : Hid (Short 20000 (magic ++ encModule 1 name rel (enc 1 ++ (encS s.data.toList ++ enc r)) (enc 1 ++ encStruct since b1 b2 t))) := Short.body (by have := HBL.out; unfold encObject at this; simp only [List.length_append] at this ⊢; omega)
  go_wp2_with fail
  refine (rest_full (w1.heap.size + 1) _ _ HWm.out 1 name rel _ _ _ _ _ _ s ar d HAR.out hd ba ca (HLm.out.mono (by omega)) ((HSm.out.cellA HAba.out 0).trans Kba0.out) ((HSm.out.cellA HAba.out 1).trans Kba1.out) ((HSm.out.cellA HAba.out 2).trans Kba2.out) (HSm.out.apart HAba.out)).mono ?_
  rintro e w2 ⟨rfl, hW2, hS2'⟩
  have hS2 := HSm.out.trans hS2'
  rw [List.append_assoc] at hW2
  clear hS2' km
  have HS2 := Lib.hid hS2
  have k2 := hS2.cellA HAB.out
  obtain ⟨g, c, hA, hc, hRd, hgc⟩ := Wr.at2 (l := magic ++ (encObject (encModule 1 name rel (enc 1 ++ (encS s.data.toList ++ enc r)) (enc 1 ++ encStruct since b1 b2 t)) (enc 1 ++ (encS s.data.toList ++ (enc ar ++ lb d))))) hW2 (by rw [List.length_append]; show 0 < 4 + _; omega)
  have HA := Lib.hid hA
  have HRd := Lib.hid hRd
  clear hW2 hS2 hA hRd
  have HL2 : Hid (Short 100 (magic ++ (encObject (encModule 1 name rel (enc 1 ++ (encS s.data.toList ++ enc r)) (enc 1 ++ encStruct since b1 b2 t)) (enc 1 ++ (encS s.data.toList ++ (enc ar ++ lb d)))))) := Short.body (by have := HBL.out; omega)
  have hlt : (magic ++ (encObject (encModule 1 name rel (enc 1 ++ (encS s.data.toList ++ enc r)) (enc 1 ++ encStruct since b1 b2 t)) (enc 1 ++ (encS s.data.toList ++ (enc ar ++ lb d))))).length ≤ 50004 := by rw [List.length_append]; have := HBL.out; have e4 : magic.length = 4 := rfl; omega
  have HF : Hid (file (encObject (encModule 1 name rel (enc 1 ++ (encS s.data.toList ++ enc r)) (enc 1 ++ encStruct since b1 b2 t)) (enc 1 ++ (encS s.data.toList ++ (enc ar ++ lb d)))) = magic ++ (encObject (encModule 1 name rel (enc 1 ++ (encS s.data.toList ++ enc r)) (enc 1 ++ encStruct since b1 b2 t)) (enc 1 ++ (encS s.data.toList ++ (enc ar ++ lb d)))) ++ lb (fsum (magic ++ (encObject (encModule 1 name rel (enc 1 ++ (encS s.data.toList ++ enc r)) (enc 1 ++ encStruct since b1 b2 t)) (enc 1 ++ (encS s.data.toList ++ (enc ar ++ lb d))))))) := rfl
  generalize (encObject (encModule 1 name rel (enc 1 ++ (encS s.data.toList ++ enc r)) (enc 1 ++ encStruct since b1 b2 t)) (enc 1 ++ (encS s.data.toList ++ (enc ar ++ lb d)))) = body at *
  generalize hm : magic ++ body = mb at *
  have HM2 := Lib.hid hm
  have hT1 := len_test1 mb.length hlt
  have HLT := Lib.hid hlt
  clear hm hlt hgc
  go_wp2_with fail
  refine (osum_any _ g 0 c mb HRd.out (HL2.out.mono (by omega))).mono ?_
  rintro e w3 ⟨rfl, rfl⟩
  have hU : U64 (fsum mb) := fsumTo_lt _ _
  generalize fsum mb = fs at *
  go_wp2_with fail
  refine (olong_any (w1.heap.size + 1) fs mb _ HA.out.wr hU (HL2.out.mono (by omega))).mono ?_
  rintro e w4 ⟨rfl, hW4, hS4⟩
  have HS4 := Lib.hid (HS2.out.trans hS4)
  have hlb : (lb fs).length = 8 := lbTo_len fs 8
  obtain ⟨g4, c4, hA4, hc4, hRd4, hgc4⟩ := hW4.at2 (by rw [List.length_append, hlb]; omega)
  have hlt4 : (mb ++ lb fs).length ≤ 50012 := by rw [List.length_append, hlb]; have := HLT.out; omega
  have hT2 := len_test2 (mb ++ lb fs).length hlt4
  have hT3 := len_test3 (mb ++ lb fs).length hlt4
  have HRd4 := Lib.hid hRd4
  have HLB := Lib.hid hlb
  have HGC4 := Lib.hid hgc4
  clear hW4 hS4 hA4 hRd4 hlb hlt4 hgc4
  have HF2 := Lib.hid (show file body = mb ++ lb fs from HF.out)
  clear HF
  generalize mb ++ lb fs = fl at *
  go_wp2_with fail
  go_ret2
  rw [HF2.out]
  exact ⟨g4, c4, rfl, HRd4.out, HGC4.out, ((HB.out.alloc (by omega) _).alloc (by simp; omega) _).trans ((HS4.out.below (B := w.heap.size) (by omega) (by simp; omega) (fun k hk => by rw [HBB.out] at hk; simp at hk; omega)))⟩

set_option maxRecDepth 100000 in
set_option maxHeartbeats 4000000 in
theorem oencode_bare (w : World) (name : ByteArray) (rel : Int) (hn : name.toList.isEmpty = false) (hr0 : 0 ≤ rel) (hr1 : rel ≤ 1000) (hsz : name.size ≤ 10000) :
    Calls Tryz.prog 6 #[.agg #[.int .i64 2, .string name, .int .i64 rel, .slice none 0 0, .slice none 0 0, .slice none 0 0, .slice none 0 0, .slice none 0 0, .slice none 0 0, .slice none 0 0, .slice none 0 0, .slice none 0 0]] w (EPost w (file (encObject (encModule 2 name rel (enc 0) (enc 0)) (enc 0)))) := by
  have hrel : I64 rel := ⟨by omega, by omega⟩
  have HR := Lib.hid hrel
  clear hrel
  have HBL : Hid ((encObject (encModule 2 name rel (enc 0) (enc 0)) (enc 0)).length ≤ 50000) := by
    have q0 := encModule_le (kind := 2) (name := name) (imps := (enc 0)) (strs := (enc 0)) (by decide) HR.out (show I64 (name.size : Int) from ⟨by omega, by omega⟩)
    have q4 := enc0_len
    unfold encObject
    simp only [List.length_append] at *
    show _ ≤ _
    omega
  go_enter Tryz.func6, Tryz.ntmps6
  go_wp2_with fail
  refine (ovalid_bare _ name rel hn hr0 hr1 ).mono ?_
  rintro e w1 ⟨rfl, hb⟩
  have z0 : w.heap.size < w1.heap.size := by have := hb.size; simp at this; omega
  have k0 : ∀ o, w1.cell? ⟨w.heap.size, o, none⟩ = _ := fun o => hb.cell (p := ⟨w.heap.size, o, none⟩) (by simp)
  have HB := Lib.hid (((Below.refl w.heap.size w).alloc (Nat.le_refl _) (.cells #[.int .i64 2, .string name, .int .i64 rel, .slice none 0 0, .slice none 0 0, .slice none 0 0, .slice none 0 0, .slice none 0 0, .slice none 0 0, .slice none 0 0, .slice none 0 0, .slice none 0 0] 44)).trans (hb.mono (by simp)))
  clear hb
  have HM := Lib.hid (Wr_magic w1 62 [] (0, 0))
  have HAB := Lib.hid (Apart_magic w1 62 [] (0, 0) (k := w.heap.size) z0)
  have HBB := Lib.hid (bufBlock_magic w1 62 [] (0, 0))
  go_wp2_with fail
  refine (omodule_bare (w1.heap.size + 1) magic _ HM.out 2 name rel (by decide) HR.out (show Short _ ([] ++ magic) by unfold Short; simp [magic]; omega)).mono ?_
  rintro e wm ⟨rfl, hWm, hSm⟩
  have km := hSm.cellA HAB.out
  have zm : w.heap.size < wm.heap.size := (hSm.apart HAB.out).1
  have HWm := Lib.hid hWm
  have HSm := Lib.hid hSm
  clear hWm hSm
  have HLm : Hid (Short 1000 (magic ++ encModule 2 name rel (enc 0) (enc 0))) := Short.body (by have := HBL.out; unfold encObject at this; simp only [List.length_append] at this ⊢; omega)
  go_wp2_with fail
  refine (rest_bare (w1.heap.size + 1) _ _ HWm.out 2 name rel _ _ _ _ _ _ (HLm.out.mono (by omega))).mono ?_
  rintro e w2 ⟨rfl, hW2, hS2'⟩
  have hS2 := HSm.out.trans hS2'
  rw [List.append_assoc] at hW2
  clear hS2' km
  have HS2 := Lib.hid hS2
  have k2 := hS2.cellA HAB.out
  obtain ⟨g, c, hA, hc, hRd, hgc⟩ := Wr.at2 (l := magic ++ (encObject (encModule 2 name rel (enc 0) (enc 0)) (enc 0))) hW2 (by rw [List.length_append]; show 0 < 4 + _; omega)
  have HA := Lib.hid hA
  have HRd := Lib.hid hRd
  clear hW2 hS2 hA hRd
  have HL2 : Hid (Short 100 (magic ++ (encObject (encModule 2 name rel (enc 0) (enc 0)) (enc 0)))) := Short.body (by have := HBL.out; omega)
  have hlt : (magic ++ (encObject (encModule 2 name rel (enc 0) (enc 0)) (enc 0))).length ≤ 50004 := by rw [List.length_append]; have := HBL.out; have e4 : magic.length = 4 := rfl; omega
  have HF : Hid (file (encObject (encModule 2 name rel (enc 0) (enc 0)) (enc 0)) = magic ++ (encObject (encModule 2 name rel (enc 0) (enc 0)) (enc 0)) ++ lb (fsum (magic ++ (encObject (encModule 2 name rel (enc 0) (enc 0)) (enc 0))))) := rfl
  generalize (encObject (encModule 2 name rel (enc 0) (enc 0)) (enc 0)) = body at *
  generalize hm : magic ++ body = mb at *
  have HM2 := Lib.hid hm
  have hT1 := len_test1 mb.length hlt
  have HLT := Lib.hid hlt
  clear hm hlt hgc
  go_wp2_with fail
  refine (osum_any _ g 0 c mb HRd.out (HL2.out.mono (by omega))).mono ?_
  rintro e w3 ⟨rfl, rfl⟩
  have hU : U64 (fsum mb) := fsumTo_lt _ _
  generalize fsum mb = fs at *
  go_wp2_with fail
  refine (olong_any (w1.heap.size + 1) fs mb _ HA.out.wr hU (HL2.out.mono (by omega))).mono ?_
  rintro e w4 ⟨rfl, hW4, hS4⟩
  have HS4 := Lib.hid (HS2.out.trans hS4)
  have hlb : (lb fs).length = 8 := lbTo_len fs 8
  obtain ⟨g4, c4, hA4, hc4, hRd4, hgc4⟩ := hW4.at2 (by rw [List.length_append, hlb]; omega)
  have hlt4 : (mb ++ lb fs).length ≤ 50012 := by rw [List.length_append, hlb]; have := HLT.out; omega
  have hT2 := len_test2 (mb ++ lb fs).length hlt4
  have hT3 := len_test3 (mb ++ lb fs).length hlt4
  have HRd4 := Lib.hid hRd4
  have HLB := Lib.hid hlb
  have HGC4 := Lib.hid hgc4
  clear hW4 hS4 hA4 hRd4 hlb hlt4 hgc4
  have HF2 := Lib.hid (show file body = mb ++ lb fs from HF.out)
  clear HF
  generalize mb ++ lb fs = fl at *
  go_wp2_with fail
  go_ret2
  rw [HF2.out]
  exact ⟨g4, c4, rfl, HRd4.out, HGC4.out, ((HB.out.alloc (by omega) _).alloc (by simp; omega) _).trans ((HS4.out.below (B := w.heap.size) (by omega) (by simp; omega) (fun k hk => by rw [HBB.out] at hk; simp at hk; omega)))⟩

end Go.Proofs.YtgliaafiompilabGreatDoor

/- The walks of the rest of an object (the reference's), and of Encode, the program's and the reference's. -/
import Derived.Test.YtgliaafiompilabGreatDoorWk
import Derived.Lib.SlBytesConst
namespace Go.Proofs.YtgliaafiompilabGreatDoor
open Go.RowKit Go.Lib

theorem Rd_of {w : World} {e : TypeId} {g n c : Nat} {l : List UInt8} (h : Buf w e (.slice (some ⟨g, 0, none⟩) n c) l) : Rd w g 0 l := by
  intro j hj
  rw [Nat.zero_add]
  refine h.cells (g := g) rfl j _ ?_
  simp [hj, bv]

theorem Wr.at2 {w : World} {T e : TypeId} {tl : List Value} {p : Nat} {l : List UInt8} (h : Wr w T e tl p l) (hl : 0 < l.length) :
    ∃ g c, WrAt w T e tl p l (.slice (some ⟨g, 0, none⟩) l.length c) ∧ w.cell? ⟨p, 0, none⟩ = some (.slice (some ⟨g, 0, none⟩) l.length c) ∧ Rd w g 0 l ∧ l.length ≤ c := by
  obtain ⟨v, h1, h2, h3⟩ := h
  have h2' := h2
  rcases h2 with ⟨rfl, rfl⟩ | ⟨g, cap, cur, mk, rfl, hg, hnc, _⟩
  · simp at hl
  · exact ⟨g, cap, ⟨h1, h2', h3⟩, cell0_of h1, Rd_of h2', hnc⟩

theorem Step.below {B p : Nat} {w w' : World} (h : Step p w w') (hp : B ≤ p) (hB : B ≤ w.heap.size) (hb : ∀ k, bufBlock w p = some k → B ≤ k) : Below B w w' :=
  ⟨h.os, h.tape, h.output, h.size, fun k hk => (h.block k (by omega) (by omega) (fun e => by have := hb k e.symm; omega)).1⟩

/-- The first four bytes. -/
def magic : List UInt8 := [76, 69, 79, 1]
/-- The bytes of an object, with the sum. -/
def file (body : List UInt8) : List UInt8 := magic ++ body ++ lb (fsum (magic ++ body))

set_option maxRecDepth 100000 in
set_option maxHeartbeats 4000000 in
theorem rest_full (p : Nat) (l : List UInt8) (w : World) (h : Wr w 62 5 [] p l) (kind : Int) (name : ByteArray) (rel : Int) (a1 a2 : Option Addr) (n1 c1 n2 c2 : Nat) (u : ByteArray) (ar : Int) (d : Nat) (har : I64 ar) (hd : U64 d) (ba ca : Nat) (hl : Short (100 + u.size) l) (hba0 : w.cell? ⟨ba, 0, none⟩ = some (.string u)) (hba1 : w.cell? ⟨ba, 1, none⟩ = some (.int .i64 ar)) (hba2 : w.cell? ⟨ba, 2, none⟩ = some (.int .u64 d)) (aba : Apart p w ba) :
    Calls Tryz.prog 15 #[.pointer (some ⟨p, 0, none⟩), .agg #[.int .i64 kind, .string name, .int .i64 rel, .slice a1 n1 c1, .slice a2 n2 c2, .slice none 0 0, .slice none 0 0, .slice none 0 0, .slice none 0 0, .slice none 0 0, .slice none 0 0, .slice (some ⟨ba, 0, none⟩) 1 ca]] w (WPost w 62 [] p (l ++ (enc 0 ++ (enc 0 ++ (enc 1 ++ (encS u.data.toList ++ (enc ar ++ lb d))))))) := by
  have HW0 := Lib.hid (h.alloc (.cells #[.int .i64 kind, .string name, .int .i64 rel, .slice a1 n1 c1, .slice a2 n2 c2, .slice none 0 0, .slice none 0 0, .slice none 0 0, .slice none 0 0, .slice none 0 0, .slice none 0 0, .slice (some ⟨ba, 0, none⟩) 1 ca] 44))
  have HB := Lib.hid (h.apart (.cells #[.int .i64 kind, .string name, .int .i64 rel, .slice a1 n1 c1, .slice a2 n2 c2, .slice none 0 0, .slice none 0 0, .slice none 0 0, .slice none 0 0, .slice none 0 0, .slice none 0 0, .slice (some ⟨ba, 0, none⟩) 1 ca] 44))
  have HS0 := Lib.hid (Step.alloc h.lt (.cells #[.int .i64 kind, .string name, .int .i64 rel, .slice a1 n1 c1, .slice a2 n2 c2, .slice none 0 0, .slice none 0 0, .slice none 0 0, .slice none 0 0, .slice none 0 0, .slice none 0 0, .slice (some ⟨ba, 0, none⟩) 1 ca] 44))
  have HT0 := Lib.hid (Step.refl p (w.alloc (.cells #[.int .i64 kind, .string name, .int .i64 rel, .slice a1 n1 c1, .slice a2 n2 c2, .slice none 0 0, .slice none 0 0, .slice none 0 0, .slice none 0 0, .slice none 0 0, .slice none 0 0, .slice (some ⟨ba, 0, none⟩) 1 ca] 44)))
  have HAba := Lib.hid aba
  have Hba0 := Lib.hid hba0
  have Hba1 := Lib.hid hba1
  have Hba2 := Lib.hid hba2
  clear h aba hba0 hba1 hba2
  go_enter Tryz.func15, Tryz.ntmps15
  go_wp2_with fail
  refine (onum_any p 0 _ _ HW0.out (by decide) ((hl).mono (by omega))).mono ?_
  rintro e w1 ⟨rfl, hW, hS⟩
  have HS1 := Lib.hid (HS0.out.trans hS)
  have HT1 := Lib.hid (HT0.out.trans hS)
  have HW1 := Lib.hid hW
  clear hW hS
  have hx1 := HT1.out.cellA HB.out
  have hs1 := (HT1.out.apart HB.out).1
  have HL1 := Lib.hid ((hl).addL (m := 90 + u.size) enc0_len (by omega))
  go_wp2_with fail
  refine wp_loop_rounds 1 ?_
  rw [rounds_succ]
  go_wp2_with fail
  refine (onum_any p 0 _ _ HW1.out (by decide) ((HL1.out).mono (by omega))).mono ?_
  rintro e w2 ⟨rfl, hW, hS⟩
  have HS2 := Lib.hid (HS1.out.trans hS)
  have HT2 := Lib.hid (HT1.out.trans hS)
  have HW2 := Lib.hid hW
  clear hW hS
  clear hx1 hs1
  have hx2 := HT2.out.cellA HB.out
  have hs2 := (HT2.out.apart HB.out).1
  have HL2 := Lib.hid ((HL1.out).addL (m := 80 + u.size) enc0_len (by omega))
  go_wp2_with fail
  refine wp_loop_rounds 1 ?_
  rw [rounds_succ]
  go_wp2_with fail
  refine (onum_any p 1 _ _ HW2.out (by decide) ((HL2.out).mono (by omega))).mono ?_
  rintro e w3 ⟨rfl, hW, hS⟩
  have HS3 := Lib.hid (HS2.out.trans hS)
  have HT3 := Lib.hid (HT2.out.trans hS)
  have HW3 := Lib.hid hW
  clear hW hS
  clear hx2 hs2
  have hx3 := HT3.out.cellA HB.out
  have hs3 := (HT3.out.apart HB.out).1
  have hi3_0 := (HS3.out.cellA HAba.out 0).trans Hba0.out
  have hi3_1 := (HS3.out.cellA HAba.out 1).trans Hba1.out
  have hi3_2 := (HS3.out.cellA HAba.out 2).trans Hba2.out
  have HL3 := Lib.hid ((HL2.out).addL (m := 70 + u.size) (enc_len (n := 1) (by decide)) (by omega))
  go_wp2_with fail
  refine wp_loop_rounds 2 ?_
  rw [rounds_succ]
  go_wp2_with fail
  refine (ostr_any p u _ _ HW3.out ((HL3.out).mono (by omega))).mono ?_
  rintro e w4 ⟨rfl, hW, hS⟩
  have HS4 := Lib.hid (HS3.out.trans hS)
  have HT4 := Lib.hid (HT3.out.trans hS)
  have HW4 := Lib.hid hW
  clear hW hS
  clear hx3 hs3 hi3_0 hi3_1 hi3_2
  have hx4 := HT4.out.cellA HB.out
  have hs4 := (HT4.out.apart HB.out).1
  have hi4_0 := (HS4.out.cellA HAba.out 0).trans Hba0.out
  have hi4_1 := (HS4.out.cellA HAba.out 1).trans Hba1.out
  have hi4_2 := (HS4.out.cellA HAba.out 2).trans Hba2.out
  have HL4 := Lib.hid ((HL3.out).addL (m := 60) (encS_le (s := u) (HL3.out.i64 (m := u.size) (by omega))) (by omega))
  go_wp2_with fail
  refine (onum_any p ar _ _ HW4.out har ((HL4.out).mono (by omega))).mono ?_
  rintro e w5 ⟨rfl, hW, hS⟩
  have HS5 := Lib.hid (HS4.out.trans hS)
  have HT5 := Lib.hid (HT4.out.trans hS)
  have HW5 := Lib.hid hW
  clear hW hS
  clear hx4 hs4 hi4_0 hi4_1 hi4_2
  have hx5 := HT5.out.cellA HB.out
  have hs5 := (HT5.out.apart HB.out).1
  have hi5_0 := (HS5.out.cellA HAba.out 0).trans Hba0.out
  have hi5_1 := (HS5.out.cellA HAba.out 1).trans Hba1.out
  have hi5_2 := (HS5.out.cellA HAba.out 2).trans Hba2.out
  have HL5 := Lib.hid ((HL4.out).addL (m := 50) (enc_len har) (by omega))
  go_wp2_with fail
  refine (olong_any p d _ _ HW5.out hd ((HL5.out).mono (by omega))).mono ?_
  rintro e w6 ⟨rfl, hW, hS⟩
  have HS6 := Lib.hid (HS5.out.trans hS)
  have HT6 := Lib.hid (HT5.out.trans hS)
  have HW6 := Lib.hid hW
  clear hW hS
  clear hx5 hs5 hi5_0 hi5_1 hi5_2
  have hx6 := HT6.out.cellA HB.out
  have hs6 := (HT6.out.apart HB.out).1
  have hi6_0 := (HS6.out.cellA HAba.out 0).trans Hba0.out
  have hi6_1 := (HS6.out.cellA HAba.out 1).trans Hba1.out
  have hi6_2 := (HS6.out.cellA HAba.out 2).trans Hba2.out
  have HL6 := Lib.hid ((HL5.out).addL (m := 40) (show (lb d).length ≤ 10 by have := lbTo_len d 8; unfold lb; omega) (by omega))
  go_wp2_with fail
  rw [rounds_succ]
  go_wp2_with fail
  go_end0
  exact ⟨rfl, by simpa only [encModule, encObject, encStruct, List.append_assoc] using HW6.out, HS6.out⟩

set_option maxRecDepth 100000 in
set_option maxHeartbeats 4000000 in
theorem rest_bare (p : Nat) (l : List UInt8) (w : World) (h : Wr w 62 5 [] p l) (kind : Int) (name : ByteArray) (rel : Int) (a1 a2 : Option Addr) (n1 c1 n2 c2 : Nat)  (hl : Short (100) l) :
    Calls Tryz.prog 15 #[.pointer (some ⟨p, 0, none⟩), .agg #[.int .i64 kind, .string name, .int .i64 rel, .slice a1 n1 c1, .slice a2 n2 c2, .slice none 0 0, .slice none 0 0, .slice none 0 0, .slice none 0 0, .slice none 0 0, .slice none 0 0, .slice none 0 0]] w (WPost w 62 [] p (l ++ (enc 0 ++ (enc 0 ++ (enc 0))))) := by
  have HW0 := Lib.hid (h.alloc (.cells #[.int .i64 kind, .string name, .int .i64 rel, .slice a1 n1 c1, .slice a2 n2 c2, .slice none 0 0, .slice none 0 0, .slice none 0 0, .slice none 0 0, .slice none 0 0, .slice none 0 0, .slice none 0 0] 44))
  have HB := Lib.hid (h.apart (.cells #[.int .i64 kind, .string name, .int .i64 rel, .slice a1 n1 c1, .slice a2 n2 c2, .slice none 0 0, .slice none 0 0, .slice none 0 0, .slice none 0 0, .slice none 0 0, .slice none 0 0, .slice none 0 0] 44))
  have HS0 := Lib.hid (Step.alloc h.lt (.cells #[.int .i64 kind, .string name, .int .i64 rel, .slice a1 n1 c1, .slice a2 n2 c2, .slice none 0 0, .slice none 0 0, .slice none 0 0, .slice none 0 0, .slice none 0 0, .slice none 0 0, .slice none 0 0] 44))
  have HT0 := Lib.hid (Step.refl p (w.alloc (.cells #[.int .i64 kind, .string name, .int .i64 rel, .slice a1 n1 c1, .slice a2 n2 c2, .slice none 0 0, .slice none 0 0, .slice none 0 0, .slice none 0 0, .slice none 0 0, .slice none 0 0, .slice none 0 0] 44)))
  clear h 
  go_enter Tryz.func15, Tryz.ntmps15
  go_wp2_with fail
  refine (onum_any p 0 _ _ HW0.out (by decide) ((hl).mono (by omega))).mono ?_
  rintro e w1 ⟨rfl, hW, hS⟩
  have HS1 := Lib.hid (HS0.out.trans hS)
  have HT1 := Lib.hid (HT0.out.trans hS)
  have HW1 := Lib.hid hW
  clear hW hS
  have hx1 := HT1.out.cellA HB.out
  have hs1 := (HT1.out.apart HB.out).1
  have HL1 := Lib.hid ((hl).addL (m := 90) enc0_len (by omega))
  go_wp2_with fail
  refine wp_loop_rounds 1 ?_
  rw [rounds_succ]
  go_wp2_with fail
  refine (onum_any p 0 _ _ HW1.out (by decide) ((HL1.out).mono (by omega))).mono ?_
  rintro e w2 ⟨rfl, hW, hS⟩
  have HS2 := Lib.hid (HS1.out.trans hS)
  have HT2 := Lib.hid (HT1.out.trans hS)
  have HW2 := Lib.hid hW
  clear hW hS
  clear hx1 hs1
  have hx2 := HT2.out.cellA HB.out
  have hs2 := (HT2.out.apart HB.out).1
  have HL2 := Lib.hid ((HL1.out).addL (m := 80) enc0_len (by omega))
  go_wp2_with fail
  refine wp_loop_rounds 1 ?_
  rw [rounds_succ]
  go_wp2_with fail
  refine (onum_any p 0 _ _ HW2.out (by decide) ((HL2.out).mono (by omega))).mono ?_
  rintro e w3 ⟨rfl, hW, hS⟩
  have HS3 := Lib.hid (HS2.out.trans hS)
  have HT3 := Lib.hid (HT2.out.trans hS)
  have HW3 := Lib.hid hW
  clear hW hS
  clear hx2 hs2
  have hx3 := HT3.out.cellA HB.out
  have hs3 := (HT3.out.apart HB.out).1
  have HL3 := Lib.hid ((HL2.out).addL (m := 70) enc0_len (by omega))
  go_wp2_with fail
  refine wp_loop_rounds 1 ?_
  rw [rounds_succ]
  go_wp2_with fail
  go_end0
  exact ⟨rfl, by simpa only [encModule, encObject, encStruct, List.append_assoc] using HW3.out, HS3.out⟩

end Go.Proofs.YtgliaafiompilabGreatDoor

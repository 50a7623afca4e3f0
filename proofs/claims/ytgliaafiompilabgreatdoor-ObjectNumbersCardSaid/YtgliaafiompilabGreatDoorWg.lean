/- The walk of the writer's object. -/
import Derived.Test.YtgliaafiompilabGreatDoorWf
namespace Go.Proofs.YtgliaafiompilabGreatDoor
open Go.RowKit Go.Lib

theorem encModule_le {kind rel : Int} {name : ByteArray} {imps strs : List UInt8} (hk : I64 kind) (hr : I64 rel) (hn : I64 (name.size : Int)) : (encModule kind name rel imps strs).length ≤ 70 + name.size + imps.length + strs.length := by
  have h1 := enc_len hk
  have h2 := enc_len hr
  have h3 := encS_le hn
  have h4 := enc0_len
  simp only [encModule, List.length_append]
  omega

theorem against_le {s : ByteArray} {r : Int} {d : Nat} (hr : I64 r) (h : I64 (s.size : Int)) : (enc 1 ++ (encS s.data.toList ++ (enc r ++ lb d))).length ≤ 40 + s.size := by
  have h1 := enc_len (n := 1) (by decide)
  have h2 := enc_len hr
  have h3 := encS_le h
  have h4 : (lb d).length = 8 := lbTo_len d 8
  simp only [List.length_append]
  omega

set_option maxRecDepth 100000 in
set_option maxHeartbeats 2000000 in
theorem object_full (p : Nat) (full : Bool) (l : List UInt8) (w : World) (h : Wr w 56 5 [.bool full] p l) (kind : Int) (name : ByteArray) (rel : Int) (hk : I64 kind) (hrel : I64 rel) (s : ByteArray) (r : Int) (hr : I64 r) (since : Int) (b1 b2 : Bool) (t : ByteArray) (hsi : I64 since) (bi ci bs cs : Nat) (u : ByteArray) (ar : Int) (d : Nat) (har : I64 ar) (hd : U64 d) (ba ca : Nat) (hl : Short (400 + name.size + s.size + t.size + u.size) l) (hbi0 : w.cell? ⟨bi, 0, none⟩ = some (.string s)) (hbi1 : w.cell? ⟨bi, 1, none⟩ = some (.int .i64 r)) (abi : Apart p w bi) (hbs0 : w.cell? ⟨bs, 0, none⟩ = some (.int .i64 since)) (hbs1 : w.cell? ⟨bs, 1, none⟩ = some (.bool b1)) (hbs2 : w.cell? ⟨bs, 2, none⟩ = some (.bool b2)) (hbs3 : w.cell? ⟨bs, 3, none⟩ = some (.string t)) (hbs4 : w.cell? ⟨bs, 4, none⟩ = some (.slice none 0 0)) (hbs5 : w.cell? ⟨bs, 5, none⟩ = some (.slice none 0 0)) (abs : Apart p w bs) (hba0 : w.cell? ⟨ba, 0, none⟩ = some (.string u)) (hba1 : w.cell? ⟨ba, 1, none⟩ = some (.int .i64 ar)) (hba2 : w.cell? ⟨ba, 2, none⟩ = some (.int .u64 d)) (aba : Apart p w ba) :
    Calls Tryz.prog 10 #[.pointer (some ⟨p, 0, none⟩), .agg #[.int .i64 kind, .string name, .int .i64 rel, .slice (some ⟨bi, 0, none⟩) 1 ci, .slice (some ⟨bs, 0, none⟩) 1 cs, .slice none 0 0, .slice none 0 0, .slice none 0 0, .slice none 0 0, .slice none 0 0, .slice none 0 0, .slice (some ⟨ba, 0, none⟩) 1 ca]] w (WPost w 56 [.bool full] p (l ++ encObject (encModule kind name rel (enc 1 ++ (encS s.data.toList ++ enc r)) (enc 1 ++ encStruct since b1 b2 t)) (enc 1 ++ (encS u.data.toList ++ (enc ar ++ lb d))))) := by
  have H := Lib.hid h
  have HW0 := Lib.hid ((h.alloc (.cells #[.pointer (some ⟨p, 0, none⟩)] 54)).alloc (.cells #[.int .i64 kind, .string name, .int .i64 rel, .slice (some ⟨bi, 0, none⟩) 1 ci, .slice (some ⟨bs, 0, none⟩) 1 cs, .slice none 0 0, .slice none 0 0, .slice none 0 0, .slice none 0 0, .slice none 0 0, .slice none 0 0, .slice (some ⟨ba, 0, none⟩) 1 ca] 44))
  have HA0 := Lib.hid ((h.apart (.cells #[.pointer (some ⟨p, 0, none⟩)] 54)).alloc (h.alloc (.cells #[.pointer (some ⟨p, 0, none⟩)] 54)).lt (.cells #[.int .i64 kind, .string name, .int .i64 rel, .slice (some ⟨bi, 0, none⟩) 1 ci, .slice (some ⟨bs, 0, none⟩) 1 cs, .slice none 0 0, .slice none 0 0, .slice none 0 0, .slice none 0 0, .slice none 0 0, .slice none 0 0, .slice (some ⟨ba, 0, none⟩) 1 ca] 44))
  have hA1 := (h.alloc (.cells #[.pointer (some ⟨p, 0, none⟩)] 54)).apart (.cells #[.int .i64 kind, .string name, .int .i64 rel, .slice (some ⟨bi, 0, none⟩) 1 ci, .slice (some ⟨bs, 0, none⟩) 1 cs, .slice none 0 0, .slice none 0 0, .slice none 0 0, .slice none 0 0, .slice none 0 0, .slice none 0 0, .slice (some ⟨ba, 0, none⟩) 1 ca] 44)
  have e1 : (w.alloc (.cells #[.pointer (some ⟨p, 0, none⟩)] 54)).heap.size = w.heap.size + 1 := by simp
  rw [e1] at hA1
  have HA1 := Lib.hid hA1
  have HS0 := Lib.hid ((Step.alloc h.lt (.cells #[.pointer (some ⟨p, 0, none⟩)] 54)).trans (Step.alloc (h.alloc (.cells #[.pointer (some ⟨p, 0, none⟩)] 54)).lt (.cells #[.int .i64 kind, .string name, .int .i64 rel, .slice (some ⟨bi, 0, none⟩) 1 ci, .slice (some ⟨bs, 0, none⟩) 1 cs, .slice none 0 0, .slice none 0 0, .slice none 0 0, .slice none 0 0, .slice none 0 0, .slice none 0 0, .slice (some ⟨ba, 0, none⟩) 1 ca] 44)))
  have HAbi := Lib.hid ((abi.alloc h.lt (.cells #[.pointer (some ⟨p, 0, none⟩)] 54)).alloc (h.alloc (.cells #[.pointer (some ⟨p, 0, none⟩)] 54)).lt (.cells #[.int .i64 kind, .string name, .int .i64 rel, .slice (some ⟨bi, 0, none⟩) 1 ci, .slice (some ⟨bs, 0, none⟩) 1 cs, .slice none 0 0, .slice none 0 0, .slice none 0 0, .slice none 0 0, .slice none 0 0, .slice none 0 0, .slice (some ⟨ba, 0, none⟩) 1 ca] 44))
  have Hbi0 := Lib.hid (cell_alloc (.cells #[.int .i64 kind, .string name, .int .i64 rel, .slice (some ⟨bi, 0, none⟩) 1 ci, .slice (some ⟨bs, 0, none⟩) 1 cs, .slice none 0 0, .slice none 0 0, .slice none 0 0, .slice none 0 0, .slice none 0 0, .slice none 0 0, .slice (some ⟨ba, 0, none⟩) 1 ca] 44) (cell_alloc (.cells #[.pointer (some ⟨p, 0, none⟩)] 54) hbi0))
  have Hbi1 := Lib.hid (cell_alloc (.cells #[.int .i64 kind, .string name, .int .i64 rel, .slice (some ⟨bi, 0, none⟩) 1 ci, .slice (some ⟨bs, 0, none⟩) 1 cs, .slice none 0 0, .slice none 0 0, .slice none 0 0, .slice none 0 0, .slice none 0 0, .slice none 0 0, .slice (some ⟨ba, 0, none⟩) 1 ca] 44) (cell_alloc (.cells #[.pointer (some ⟨p, 0, none⟩)] 54) hbi1))
  have HAbs := Lib.hid ((abs.alloc h.lt (.cells #[.pointer (some ⟨p, 0, none⟩)] 54)).alloc (h.alloc (.cells #[.pointer (some ⟨p, 0, none⟩)] 54)).lt (.cells #[.int .i64 kind, .string name, .int .i64 rel, .slice (some ⟨bi, 0, none⟩) 1 ci, .slice (some ⟨bs, 0, none⟩) 1 cs, .slice none 0 0, .slice none 0 0, .slice none 0 0, .slice none 0 0, .slice none 0 0, .slice none 0 0, .slice (some ⟨ba, 0, none⟩) 1 ca] 44))
  have Hbs0 := Lib.hid (cell_alloc (.cells #[.int .i64 kind, .string name, .int .i64 rel, .slice (some ⟨bi, 0, none⟩) 1 ci, .slice (some ⟨bs, 0, none⟩) 1 cs, .slice none 0 0, .slice none 0 0, .slice none 0 0, .slice none 0 0, .slice none 0 0, .slice none 0 0, .slice (some ⟨ba, 0, none⟩) 1 ca] 44) (cell_alloc (.cells #[.pointer (some ⟨p, 0, none⟩)] 54) hbs0))
  have Hbs1 := Lib.hid (cell_alloc (.cells #[.int .i64 kind, .string name, .int .i64 rel, .slice (some ⟨bi, 0, none⟩) 1 ci, .slice (some ⟨bs, 0, none⟩) 1 cs, .slice none 0 0, .slice none 0 0, .slice none 0 0, .slice none 0 0, .slice none 0 0, .slice none 0 0, .slice (some ⟨ba, 0, none⟩) 1 ca] 44) (cell_alloc (.cells #[.pointer (some ⟨p, 0, none⟩)] 54) hbs1))
  have Hbs2 := Lib.hid (cell_alloc (.cells #[.int .i64 kind, .string name, .int .i64 rel, .slice (some ⟨bi, 0, none⟩) 1 ci, .slice (some ⟨bs, 0, none⟩) 1 cs, .slice none 0 0, .slice none 0 0, .slice none 0 0, .slice none 0 0, .slice none 0 0, .slice none 0 0, .slice (some ⟨ba, 0, none⟩) 1 ca] 44) (cell_alloc (.cells #[.pointer (some ⟨p, 0, none⟩)] 54) hbs2))
  have Hbs3 := Lib.hid (cell_alloc (.cells #[.int .i64 kind, .string name, .int .i64 rel, .slice (some ⟨bi, 0, none⟩) 1 ci, .slice (some ⟨bs, 0, none⟩) 1 cs, .slice none 0 0, .slice none 0 0, .slice none 0 0, .slice none 0 0, .slice none 0 0, .slice none 0 0, .slice (some ⟨ba, 0, none⟩) 1 ca] 44) (cell_alloc (.cells #[.pointer (some ⟨p, 0, none⟩)] 54) hbs3))
  have Hbs4 := Lib.hid (cell_alloc (.cells #[.int .i64 kind, .string name, .int .i64 rel, .slice (some ⟨bi, 0, none⟩) 1 ci, .slice (some ⟨bs, 0, none⟩) 1 cs, .slice none 0 0, .slice none 0 0, .slice none 0 0, .slice none 0 0, .slice none 0 0, .slice none 0 0, .slice (some ⟨ba, 0, none⟩) 1 ca] 44) (cell_alloc (.cells #[.pointer (some ⟨p, 0, none⟩)] 54) hbs4))
  have Hbs5 := Lib.hid (cell_alloc (.cells #[.int .i64 kind, .string name, .int .i64 rel, .slice (some ⟨bi, 0, none⟩) 1 ci, .slice (some ⟨bs, 0, none⟩) 1 cs, .slice none 0 0, .slice none 0 0, .slice none 0 0, .slice none 0 0, .slice none 0 0, .slice none 0 0, .slice (some ⟨ba, 0, none⟩) 1 ca] 44) (cell_alloc (.cells #[.pointer (some ⟨p, 0, none⟩)] 54) hbs5))
  have HAba := Lib.hid ((aba.alloc h.lt (.cells #[.pointer (some ⟨p, 0, none⟩)] 54)).alloc (h.alloc (.cells #[.pointer (some ⟨p, 0, none⟩)] 54)).lt (.cells #[.int .i64 kind, .string name, .int .i64 rel, .slice (some ⟨bi, 0, none⟩) 1 ci, .slice (some ⟨bs, 0, none⟩) 1 cs, .slice none 0 0, .slice none 0 0, .slice none 0 0, .slice none 0 0, .slice none 0 0, .slice none 0 0, .slice (some ⟨ba, 0, none⟩) 1 ca] 44))
  have Hba0 := Lib.hid (cell_alloc (.cells #[.int .i64 kind, .string name, .int .i64 rel, .slice (some ⟨bi, 0, none⟩) 1 ci, .slice (some ⟨bs, 0, none⟩) 1 cs, .slice none 0 0, .slice none 0 0, .slice none 0 0, .slice none 0 0, .slice none 0 0, .slice none 0 0, .slice (some ⟨ba, 0, none⟩) 1 ca] 44) (cell_alloc (.cells #[.pointer (some ⟨p, 0, none⟩)] 54) hba0))
  have Hba1 := Lib.hid (cell_alloc (.cells #[.int .i64 kind, .string name, .int .i64 rel, .slice (some ⟨bi, 0, none⟩) 1 ci, .slice (some ⟨bs, 0, none⟩) 1 cs, .slice none 0 0, .slice none 0 0, .slice none 0 0, .slice none 0 0, .slice none 0 0, .slice none 0 0, .slice (some ⟨ba, 0, none⟩) 1 ca] 44) (cell_alloc (.cells #[.pointer (some ⟨p, 0, none⟩)] 54) hba1))
  have Hba2 := Lib.hid (cell_alloc (.cells #[.int .i64 kind, .string name, .int .i64 rel, .slice (some ⟨bi, 0, none⟩) 1 ci, .slice (some ⟨bs, 0, none⟩) 1 cs, .slice none 0 0, .slice none 0 0, .slice none 0 0, .slice none 0 0, .slice none 0 0, .slice none 0 0, .slice (some ⟨ba, 0, none⟩) 1 ca] 44) (cell_alloc (.cells #[.pointer (some ⟨p, 0, none⟩)] 54) hba2))
  clear h hA1 e1 abi hbi0 hbi1 abs hbs0 hbs1 hbs2 hbs3 hbs4 hbs5 aba hba0 hba1 hba2
  have hmf : ∀ (fn : Fn) (first cap : Array Value) (w : World), (Instr.makeFunc fn first cap).run Tryz.prog w = .ok (.func fn first cap) w := fun _ _ _ _ => rfl
  go_enter Tryz.func10, Tryz.ntmps10
  go_wp2_with fail
  refine (module_full p full _ _ HW0.out kind name rel hk hrel s r hr since b1 b2 t hsi bi ci bs cs ((hl).mono (by omega)) Hbi0.out Hbi1.out HAbi.out Hbs0.out Hbs1.out Hbs2.out Hbs3.out Hbs4.out Hbs5.out HAbs.out).mono ?_
  rintro e w1 ⟨rfl, hW, hS⟩
  have HS1 := Lib.hid hS
  have HW1 := Lib.hid hW
  have hx1 := HS1.out.cellA HA0.out
  have hy1 := HS1.out.cellA HA1.out
  have hs1 : w.heap.size + 1 < w1.heap.size := (HS1.out.apart HA1.out).1
  clear hW hS
  have HL1 := Lib.hid ((hl).addL (m := 150 + u.size) (show (encModule kind name rel (enc 1 ++ (encS s.data.toList ++ enc r)) (enc 1 ++ encStruct since b1 b2 t)).length ≤ 200 + name.size + s.size + t.size from Nat.le_trans (encModule_le hk hrel (hl.i64 (m := name.size) (by omega))) (by have := imps_le (s := s) hr (hl.i64 (m := s.size) (by omega)); have := strs_le (s := t) (b1 := b1) (b2 := b2) hsi (hl.i64 (m := t.size) (by omega)); omega)) (by omega))
  go_wp2_with fail
  refine (write26_nil p full _ _ HW1.out ((HL1.out).mono (by omega)) _ _ _).mono ?_
  rintro e w2 ⟨rfl, hW, hS⟩
  have HS2 := Lib.hid (HS1.out.trans hS)
  have HW2 := Lib.hid hW
  have hx2 := HS2.out.cellA HA0.out
  have hy2 := HS2.out.cellA HA1.out
  have hs2 : w.heap.size + 1 < w2.heap.size := (HS2.out.apart HA1.out).1
  clear hW hS hx1 hy1 hs1
  have HL2 := Lib.hid ((HL1.out).addL (m := 140 + u.size) enc0_len (by omega))
  go_wp2_with fail
  refine (write28_nil p full _ _ HW2.out ((HL2.out).mono (by omega)) _ _ _).mono ?_
  rintro e w3 ⟨rfl, hW, hS⟩
  have HS3 := Lib.hid (HS2.out.trans hS)
  have HW3 := Lib.hid hW
  have hx3 := HS3.out.cellA HA0.out
  have hy3 := HS3.out.cellA HA1.out
  have hs3 : w.heap.size + 1 < w3.heap.size := (HS3.out.apart HA1.out).1
  clear hW hS hx2 hy2 hs2
  have HL3 := Lib.hid ((HL2.out).addL (m := 130 + u.size) enc0_len (by omega))
  go_wp2_with fail
  refine (write32_one p full _ _ HW3.out u ar d har hd ((HL3.out).mono (by omega)) w.heap.size ((hx3 0).trans (by simp)) (HS3.out.apart HA0.out) ba ca ((HS3.out.cellA HAba.out 0).trans Hba0.out) ((HS3.out.cellA HAba.out 1).trans Hba1.out) ((HS3.out.cellA HAba.out 2).trans Hba2.out) (HS3.out.apart HAba.out)).mono ?_
  rintro e w4 ⟨rfl, hW, hS⟩
  have HS4 := Lib.hid (HS3.out.trans hS)
  have HW4 := Lib.hid hW
  have hx4 := HS4.out.cellA HA0.out
  have hy4 := HS4.out.cellA HA1.out
  have hs4 : w.heap.size + 1 < w4.heap.size := (HS4.out.apart HA1.out).1
  clear hW hS hx3 hy3 hs3
  have HL4 := Lib.hid ((HL3.out).addL (m := 70) (against_le (s := u) (d := d) har ((HL3.out).i64 (m := u.size) (by omega))) (by omega))
  go_wp2_with fail
  go_end0
  exact ⟨rfl, by simpa only [encModule, encObject, List.append_assoc] using HW4.out, HS0.out.trans HS4.out⟩

set_option maxRecDepth 100000 in
set_option maxHeartbeats 2000000 in
theorem object_bare (p : Nat) (full : Bool) (l : List UInt8) (w : World) (h : Wr w 56 5 [.bool full] p l) (kind : Int) (name : ByteArray) (rel : Int) (hk : I64 kind) (hrel : I64 rel) (hl : Short (400 + name.size) l) :
    Calls Tryz.prog 10 #[.pointer (some ⟨p, 0, none⟩), .agg #[.int .i64 kind, .string name, .int .i64 rel, .slice none 0 0, .slice none 0 0, .slice none 0 0, .slice none 0 0, .slice none 0 0, .slice none 0 0, .slice none 0 0, .slice none 0 0, .slice none 0 0]] w (WPost w 56 [.bool full] p (l ++ encObject (encModule kind name rel (enc 0) (enc 0)) (enc 0))) := by
  have H := Lib.hid h
  have HW0 := Lib.hid ((h.alloc (.cells #[.pointer (some ⟨p, 0, none⟩)] 54)).alloc (.cells #[.int .i64 kind, .string name, .int .i64 rel, .slice none 0 0, .slice none 0 0, .slice none 0 0, .slice none 0 0, .slice none 0 0, .slice none 0 0, .slice none 0 0, .slice none 0 0, .slice none 0 0] 44))
  have HA0 := Lib.hid ((h.apart (.cells #[.pointer (some ⟨p, 0, none⟩)] 54)).alloc (h.alloc (.cells #[.pointer (some ⟨p, 0, none⟩)] 54)).lt (.cells #[.int .i64 kind, .string name, .int .i64 rel, .slice none 0 0, .slice none 0 0, .slice none 0 0, .slice none 0 0, .slice none 0 0, .slice none 0 0, .slice none 0 0, .slice none 0 0, .slice none 0 0] 44))
  have hA1 := (h.alloc (.cells #[.pointer (some ⟨p, 0, none⟩)] 54)).apart (.cells #[.int .i64 kind, .string name, .int .i64 rel, .slice none 0 0, .slice none 0 0, .slice none 0 0, .slice none 0 0, .slice none 0 0, .slice none 0 0, .slice none 0 0, .slice none 0 0, .slice none 0 0] 44)
  have e1 : (w.alloc (.cells #[.pointer (some ⟨p, 0, none⟩)] 54)).heap.size = w.heap.size + 1 := by simp
  rw [e1] at hA1
  have HA1 := Lib.hid hA1
  have HS0 := Lib.hid ((Step.alloc h.lt (.cells #[.pointer (some ⟨p, 0, none⟩)] 54)).trans (Step.alloc (h.alloc (.cells #[.pointer (some ⟨p, 0, none⟩)] 54)).lt (.cells #[.int .i64 kind, .string name, .int .i64 rel, .slice none 0 0, .slice none 0 0, .slice none 0 0, .slice none 0 0, .slice none 0 0, .slice none 0 0, .slice none 0 0, .slice none 0 0, .slice none 0 0] 44)))
  clear h hA1 e1 
  have hmf : ∀ (fn : Fn) (first cap : Array Value) (w : World), (Instr.makeFunc fn first cap).run Tryz.prog w = .ok (.func fn first cap) w := fun _ _ _ _ => rfl
  go_enter Tryz.func10, Tryz.ntmps10
  go_wp2_with fail
  refine (module_bare p full _ _ HW0.out kind name rel hk hrel ((hl).mono (by omega))).mono ?_
  rintro e w1 ⟨rfl, hW, hS⟩
  have HS1 := Lib.hid hS
  have HW1 := Lib.hid hW
  have hx1 := HS1.out.cellA HA0.out
  have hy1 := HS1.out.cellA HA1.out
  have hs1 : w.heap.size + 1 < w1.heap.size := (HS1.out.apart HA1.out).1
  clear hW hS
  have HL1 := Lib.hid ((hl).addL (m := 150) (show (encModule kind name rel (enc 0) (enc 0)).length ≤ 200 + name.size from Nat.le_trans (encModule_le hk hrel (hl.i64 (m := name.size) (by omega))) (by have := enc0_len; omega)) (by omega))
  go_wp2_with fail
  refine (write26_nil p full _ _ HW1.out ((HL1.out).mono (by omega)) _ _ _).mono ?_
  rintro e w2 ⟨rfl, hW, hS⟩
  have HS2 := Lib.hid (HS1.out.trans hS)
  have HW2 := Lib.hid hW
  have hx2 := HS2.out.cellA HA0.out
  have hy2 := HS2.out.cellA HA1.out
  have hs2 : w.heap.size + 1 < w2.heap.size := (HS2.out.apart HA1.out).1
  clear hW hS hx1 hy1 hs1
  have HL2 := Lib.hid ((HL1.out).addL (m := 140) enc0_len (by omega))
  go_wp2_with fail
  refine (write28_nil p full _ _ HW2.out ((HL2.out).mono (by omega)) _ _ _).mono ?_
  rintro e w3 ⟨rfl, hW, hS⟩
  have HS3 := Lib.hid (HS2.out.trans hS)
  have HW3 := Lib.hid hW
  have hx3 := HS3.out.cellA HA0.out
  have hy3 := HS3.out.cellA HA1.out
  have hs3 : w.heap.size + 1 < w3.heap.size := (HS3.out.apart HA1.out).1
  clear hW hS hx2 hy2 hs2
  have HL3 := Lib.hid ((HL2.out).addL (m := 130) enc0_len (by omega))
  go_wp2_with fail
  refine (write32_nil p full _ _ HW3.out ((HL3.out).mono (by omega)) _ _ _).mono ?_
  rintro e w4 ⟨rfl, hW, hS⟩
  have HS4 := Lib.hid (HS3.out.trans hS)
  have HW4 := Lib.hid hW
  have hx4 := HS4.out.cellA HA0.out
  have hy4 := HS4.out.cellA HA1.out
  have hs4 : w.heap.size + 1 < w4.heap.size := (HS4.out.apart HA1.out).1
  clear hW hS hx3 hy3 hs3
  have HL4 := Lib.hid ((HL3.out).addL (m := 70) enc0_len (by omega))
  go_wp2_with fail
  go_end0
  exact ⟨rfl, by simpa only [encModule, encObject, List.append_assoc] using HW4.out, HS0.out.trans HS4.out⟩

end Go.Proofs.YtgliaafiompilabGreatDoor

/- The walks of the writer's module and object. -/
import Derived.Test.YtgliaafiompilabGreatDoorWe
namespace Go.Proofs.YtgliaafiompilabGreatDoor
open Go.RowKit Go.Lib

/-- The bytes of a module: imports and structs as bytes, and nothing else. -/
def encModule (kind : Int) (name : ByteArray) (rel : Int) (imps strs : List UInt8) : List UInt8 :=
  enc kind ++ (encS name.data.toList ++ (enc rel ++ (imps ++ (strs ++ (enc 0 ++ (enc 0 ++ (enc 0 ++ enc 0)))))))

/-- The bytes of an object: its module, no codes, nothing frozen, and what it was compiled against. -/
def encObject (m against : List UInt8) : List UInt8 := m ++ (enc 0 ++ (enc 0 ++ against))

theorem Short.addL {k m j : Nat} {l x : List UInt8} (h : Short k l) (hx : x.length ≤ j) (hm : m + j ≤ k) : Short m (l ++ x) := by
  unfold Short at *
  rw [List.length_append]
  omega

theorem enc0_len : (enc 0).length ≤ 10 := enc_len (by decide)

theorem encS_le {s : ByteArray} (h : I64 (s.size : Int)) : (encS s.data.toList).length ≤ 10 + s.size := encS_len (s := s.data.toList) h

theorem imps_le {s : ByteArray} {r : Int} (hr : I64 r) (h : I64 (s.size : Int)) : (enc 1 ++ (encS s.data.toList ++ enc r)).length ≤ 30 + s.size := by
  have h1 := enc_len (n := 1) (by decide)
  have h2 := enc_len hr
  have h3 := encS_le h
  simp only [List.length_append]
  omega

theorem encB_len (b : Bool) : (encB b).length ≤ 10 := enc_len (by cases b <;> decide)

theorem strs_le {s : ByteArray} {r : Int} {b1 b2 : Bool} (hr : I64 r) (h : I64 (s.size : Int)) : (enc 1 ++ encStruct r b1 b2 s).length ≤ 70 + s.size := by
  have h1 := enc_len (n := 1) (by decide)
  have h2 := enc_len hr
  have h3 := encS_le h
  have h4 := encB_len b1
  have h5 := encB_len b2
  have h6 := enc0_len
  simp only [encStruct, List.length_append]
  omega

set_option maxRecDepth 100000 in
set_option maxHeartbeats 2000000 in
theorem module_full (p : Nat) (full : Bool) (l : List UInt8) (w : World) (h : Wr w 56 5 [.bool full] p l) (kind : Int) (name : ByteArray) (rel : Int) (hk : I64 kind) (hrel : I64 rel) (s : ByteArray) (r : Int) (hr : I64 r) (since : Int) (b1 b2 : Bool) (t : ByteArray) (hsi : I64 since) (bi ci bs cs : Nat) (hl : Short (200 + name.size + s.size + t.size) l) (hbi0 : w.cell? ⟨bi, 0, none⟩ = some (.string s)) (hbi1 : w.cell? ⟨bi, 1, none⟩ = some (.int .i64 r)) (abi : Apart p w bi) (hbs0 : w.cell? ⟨bs, 0, none⟩ = some (.int .i64 since)) (hbs1 : w.cell? ⟨bs, 1, none⟩ = some (.bool b1)) (hbs2 : w.cell? ⟨bs, 2, none⟩ = some (.bool b2)) (hbs3 : w.cell? ⟨bs, 3, none⟩ = some (.string t)) (hbs4 : w.cell? ⟨bs, 4, none⟩ = some (.slice none 0 0)) (hbs5 : w.cell? ⟨bs, 5, none⟩ = some (.slice none 0 0)) (abs : Apart p w bs) :
    Calls Tryz.prog 25 #[.pointer (some ⟨p, 0, none⟩), .agg #[.int .i64 kind, .string name, .int .i64 rel, .slice (some ⟨bi, 0, none⟩) 1 ci, .slice (some ⟨bs, 0, none⟩) 1 cs, .slice none 0 0, .slice none 0 0, .slice none 0 0, .slice none 0 0]] w (WPost w 56 [.bool full] p (l ++ encModule kind name rel (enc 1 ++ (encS s.data.toList ++ enc r)) (enc 1 ++ encStruct since b1 b2 t))) := by
  have H := Lib.hid h
  have HW0 := Lib.hid ((h.alloc (.cells #[.pointer (some ⟨p, 0, none⟩)] 54)).alloc (.cells #[.int .i64 kind, .string name, .int .i64 rel, .slice (some ⟨bi, 0, none⟩) 1 ci, .slice (some ⟨bs, 0, none⟩) 1 cs, .slice none 0 0, .slice none 0 0, .slice none 0 0, .slice none 0 0] 37))
  have HA0 := Lib.hid ((h.apart (.cells #[.pointer (some ⟨p, 0, none⟩)] 54)).alloc (h.alloc (.cells #[.pointer (some ⟨p, 0, none⟩)] 54)).lt (.cells #[.int .i64 kind, .string name, .int .i64 rel, .slice (some ⟨bi, 0, none⟩) 1 ci, .slice (some ⟨bs, 0, none⟩) 1 cs, .slice none 0 0, .slice none 0 0, .slice none 0 0, .slice none 0 0] 37))
  have hA1 := (h.alloc (.cells #[.pointer (some ⟨p, 0, none⟩)] 54)).apart (.cells #[.int .i64 kind, .string name, .int .i64 rel, .slice (some ⟨bi, 0, none⟩) 1 ci, .slice (some ⟨bs, 0, none⟩) 1 cs, .slice none 0 0, .slice none 0 0, .slice none 0 0, .slice none 0 0] 37)
  have e1 : (w.alloc (.cells #[.pointer (some ⟨p, 0, none⟩)] 54)).heap.size = w.heap.size + 1 := by simp
  rw [e1] at hA1
  have HA1 := Lib.hid hA1
  have HS0 := Lib.hid ((Step.alloc h.lt (.cells #[.pointer (some ⟨p, 0, none⟩)] 54)).trans (Step.alloc (h.alloc (.cells #[.pointer (some ⟨p, 0, none⟩)] 54)).lt (.cells #[.int .i64 kind, .string name, .int .i64 rel, .slice (some ⟨bi, 0, none⟩) 1 ci, .slice (some ⟨bs, 0, none⟩) 1 cs, .slice none 0 0, .slice none 0 0, .slice none 0 0, .slice none 0 0] 37)))
  have HAbi := Lib.hid ((abi.alloc h.lt (.cells #[.pointer (some ⟨p, 0, none⟩)] 54)).alloc (h.alloc (.cells #[.pointer (some ⟨p, 0, none⟩)] 54)).lt (.cells #[.int .i64 kind, .string name, .int .i64 rel, .slice (some ⟨bi, 0, none⟩) 1 ci, .slice (some ⟨bs, 0, none⟩) 1 cs, .slice none 0 0, .slice none 0 0, .slice none 0 0, .slice none 0 0] 37))
  have Hbi0 := Lib.hid (cell_alloc (.cells #[.int .i64 kind, .string name, .int .i64 rel, .slice (some ⟨bi, 0, none⟩) 1 ci, .slice (some ⟨bs, 0, none⟩) 1 cs, .slice none 0 0, .slice none 0 0, .slice none 0 0, .slice none 0 0] 37) (cell_alloc (.cells #[.pointer (some ⟨p, 0, none⟩)] 54) hbi0))
  have Hbi1 := Lib.hid (cell_alloc (.cells #[.int .i64 kind, .string name, .int .i64 rel, .slice (some ⟨bi, 0, none⟩) 1 ci, .slice (some ⟨bs, 0, none⟩) 1 cs, .slice none 0 0, .slice none 0 0, .slice none 0 0, .slice none 0 0] 37) (cell_alloc (.cells #[.pointer (some ⟨p, 0, none⟩)] 54) hbi1))
  have HAbs := Lib.hid ((abs.alloc h.lt (.cells #[.pointer (some ⟨p, 0, none⟩)] 54)).alloc (h.alloc (.cells #[.pointer (some ⟨p, 0, none⟩)] 54)).lt (.cells #[.int .i64 kind, .string name, .int .i64 rel, .slice (some ⟨bi, 0, none⟩) 1 ci, .slice (some ⟨bs, 0, none⟩) 1 cs, .slice none 0 0, .slice none 0 0, .slice none 0 0, .slice none 0 0] 37))
  have Hbs0 := Lib.hid (cell_alloc (.cells #[.int .i64 kind, .string name, .int .i64 rel, .slice (some ⟨bi, 0, none⟩) 1 ci, .slice (some ⟨bs, 0, none⟩) 1 cs, .slice none 0 0, .slice none 0 0, .slice none 0 0, .slice none 0 0] 37) (cell_alloc (.cells #[.pointer (some ⟨p, 0, none⟩)] 54) hbs0))
  have Hbs1 := Lib.hid (cell_alloc (.cells #[.int .i64 kind, .string name, .int .i64 rel, .slice (some ⟨bi, 0, none⟩) 1 ci, .slice (some ⟨bs, 0, none⟩) 1 cs, .slice none 0 0, .slice none 0 0, .slice none 0 0, .slice none 0 0] 37) (cell_alloc (.cells #[.pointer (some ⟨p, 0, none⟩)] 54) hbs1))
  have Hbs2 := Lib.hid (cell_alloc (.cells #[.int .i64 kind, .string name, .int .i64 rel, .slice (some ⟨bi, 0, none⟩) 1 ci, .slice (some ⟨bs, 0, none⟩) 1 cs, .slice none 0 0, .slice none 0 0, .slice none 0 0, .slice none 0 0] 37) (cell_alloc (.cells #[.pointer (some ⟨p, 0, none⟩)] 54) hbs2))
  have Hbs3 := Lib.hid (cell_alloc (.cells #[.int .i64 kind, .string name, .int .i64 rel, .slice (some ⟨bi, 0, none⟩) 1 ci, .slice (some ⟨bs, 0, none⟩) 1 cs, .slice none 0 0, .slice none 0 0, .slice none 0 0, .slice none 0 0] 37) (cell_alloc (.cells #[.pointer (some ⟨p, 0, none⟩)] 54) hbs3))
  have Hbs4 := Lib.hid (cell_alloc (.cells #[.int .i64 kind, .string name, .int .i64 rel, .slice (some ⟨bi, 0, none⟩) 1 ci, .slice (some ⟨bs, 0, none⟩) 1 cs, .slice none 0 0, .slice none 0 0, .slice none 0 0, .slice none 0 0] 37) (cell_alloc (.cells #[.pointer (some ⟨p, 0, none⟩)] 54) hbs4))
  have Hbs5 := Lib.hid (cell_alloc (.cells #[.int .i64 kind, .string name, .int .i64 rel, .slice (some ⟨bi, 0, none⟩) 1 ci, .slice (some ⟨bs, 0, none⟩) 1 cs, .slice none 0 0, .slice none 0 0, .slice none 0 0, .slice none 0 0] 37) (cell_alloc (.cells #[.pointer (some ⟨p, 0, none⟩)] 54) hbs5))
  clear h hA1 e1 abi hbi0 hbi1 abs hbs0 hbs1 hbs2 hbs3 hbs4 hbs5
  have hmf : ∀ (fn : Fn) (first cap : Array Value) (w : World), (Instr.makeFunc fn first cap).run Tryz.prog w = .ok (.func fn first cap) w := fun _ _ _ _ => rfl
  go_enter Tryz.func25, Tryz.ntmps25
  go_wp2_with fail
  refine (numbers_one' p full kind _ _ HW0.out hk ((hl).mono (by omega)) (w.heap.size + 2) (by simp)).mono ?_
  rintro e w1 ⟨rfl, hW, hS⟩
  have HS1 := Lib.hid hS
  have HW1 := Lib.hid hW
  have hx1 := HS1.out.cellA HA0.out
  have hy1 := HS1.out.cellA HA1.out
  have hs1 : w.heap.size + 1 < w1.heap.size := (HS1.out.apart HA1.out).1
  clear hW hS
  have HL1 := Lib.hid ((hl).addL (m := 190 + name.size + s.size + t.size) (enc_len hk) (by omega))
  go_wp2_with fail
  refine (text_any p full name _ _ HW1.out ((HL1.out).mono (by omega))).mono ?_
  rintro e w2 ⟨rfl, hW, hS⟩
  have HS2 := Lib.hid (HS1.out.trans hS)
  have HW2 := Lib.hid hW
  have hx2 := HS2.out.cellA HA0.out
  have hy2 := HS2.out.cellA HA1.out
  have hs2 : w.heap.size + 1 < w2.heap.size := (HS2.out.apart HA1.out).1
  clear hW hS hx1 hy1 hs1
  have HL2 := Lib.hid ((HL1.out).addL (m := 180 + s.size + t.size) (encS_le (s := name) (HL1.out.i64 (m := name.size) (by omega))) (by omega))
  go_wp2_with fail
  refine (numbers_one p full rel _ _ HW2.out hrel ((HL2.out).mono (by omega))).mono ?_
  rintro e w3 ⟨rfl, hW, hS⟩
  have HS3 := Lib.hid (HS2.out.trans hS)
  have HW3 := Lib.hid hW
  have hx3 := HS3.out.cellA HA0.out
  have hy3 := HS3.out.cellA HA1.out
  have hs3 : w.heap.size + 1 < w3.heap.size := (HS3.out.apart HA1.out).1
  clear hW hS hx2 hy2 hs2
  have HL3 := Lib.hid ((HL2.out).addL (m := 170 + s.size + t.size) (enc_len hrel) (by omega))
  go_wp2_with fail
  refine (write75_one p full _ _ HW3.out s r hr ((HL3.out).mono (by omega)) w.heap.size ((hx3 0).trans (by simp)) (HS3.out.apart HA0.out) bi ci ((HS3.out.cellA HAbi.out 0).trans Hbi0.out) ((HS3.out.cellA HAbi.out 1).trans Hbi1.out) (HS3.out.apart HAbi.out)).mono ?_
  rintro e w4 ⟨rfl, hW, hS⟩
  have HS4 := Lib.hid (HS3.out.trans hS)
  have HW4 := Lib.hid hW
  have hx4 := HS4.out.cellA HA0.out
  have hy4 := HS4.out.cellA HA1.out
  have hs4 : w.heap.size + 1 < w4.heap.size := (HS4.out.apart HA1.out).1
  clear hW hS hx3 hy3 hs3
  have HL4 := Lib.hid ((HL3.out).addL (m := 140 + t.size) (imps_le (s := s) hr ((HL3.out).i64 (m := s.size) (by omega))) (by omega))
  go_wp2_with fail
  refine (write77_one p full _ _ HW4.out since b1 b2 t hsi ((HL4.out).mono (by omega)) w.heap.size ((hx4 0).trans (by simp)) (HS4.out.apart HA0.out) bs cs ((HS4.out.cellA HAbs.out 0).trans Hbs0.out) ((HS4.out.cellA HAbs.out 1).trans Hbs1.out) ((HS4.out.cellA HAbs.out 2).trans Hbs2.out) ((HS4.out.cellA HAbs.out 3).trans Hbs3.out) ((HS4.out.cellA HAbs.out 4).trans Hbs4.out) ((HS4.out.cellA HAbs.out 5).trans Hbs5.out) (HS4.out.apart HAbs.out)).mono ?_
  rintro e w5 ⟨rfl, hW, hS⟩
  have HS5 := Lib.hid (HS4.out.trans hS)
  have HW5 := Lib.hid hW
  have hx5 := HS5.out.cellA HA0.out
  have hy5 := HS5.out.cellA HA1.out
  have hs5 : w.heap.size + 1 < w5.heap.size := (HS5.out.apart HA1.out).1
  clear hW hS hx4 hy4 hs4
  have HL5 := Lib.hid ((HL4.out).addL (m := 70) (strs_le (s := t) (b1 := b1) (b2 := b2) hsi ((HL4.out).i64 (m := t.size) (by omega))) (by omega))
  go_wp2_with fail
  refine (write83_nil p full _ _ HW5.out ((HL5.out).mono (by omega)) _ _ _).mono ?_
  rintro e w6 ⟨rfl, hW, hS⟩
  have HS6 := Lib.hid (HS5.out.trans hS)
  have HW6 := Lib.hid hW
  have hx6 := HS6.out.cellA HA0.out
  have hy6 := HS6.out.cellA HA1.out
  have hs6 : w.heap.size + 1 < w6.heap.size := (HS6.out.apart HA1.out).1
  clear hW hS hx5 hy5 hs5
  have HL6 := Lib.hid ((HL5.out).addL (m := 60) enc0_len (by omega))
  go_wp2_with fail
  refine (write88_nil p full _ _ HW6.out ((HL6.out).mono (by omega)) _ _ _).mono ?_
  rintro e w7 ⟨rfl, hW, hS⟩
  have HS7 := Lib.hid (HS6.out.trans hS)
  have HW7 := Lib.hid hW
  have hx7 := HS7.out.cellA HA0.out
  have hy7 := HS7.out.cellA HA1.out
  have hs7 : w.heap.size + 1 < w7.heap.size := (HS7.out.apart HA1.out).1
  clear hW hS hx6 hy6 hs6
  have HL7 := Lib.hid ((HL6.out).addL (m := 50) enc0_len (by omega))
  go_wp2_with fail
  refine (write92_nil p full _ _ HW7.out ((HL7.out).mono (by omega)) _ _ _).mono ?_
  rintro e w8 ⟨rfl, hW, hS⟩
  have HS8 := Lib.hid (HS7.out.trans hS)
  have HW8 := Lib.hid hW
  have hx8 := HS8.out.cellA HA0.out
  have hy8 := HS8.out.cellA HA1.out
  have hs8 : w.heap.size + 1 < w8.heap.size := (HS8.out.apart HA1.out).1
  clear hW hS hx7 hy7 hs7
  have HL8 := Lib.hid ((HL7.out).addL (m := 40) enc0_len (by omega))
  go_wp2_with fail
  refine (write98_nil p full _ _ HW8.out ((HL8.out).mono (by omega)) _ _ _).mono ?_
  rintro e w9 ⟨rfl, hW, hS⟩
  have HS9 := Lib.hid (HS8.out.trans hS)
  have HW9 := Lib.hid hW
  have hx9 := HS9.out.cellA HA0.out
  have hy9 := HS9.out.cellA HA1.out
  have hs9 : w.heap.size + 1 < w9.heap.size := (HS9.out.apart HA1.out).1
  clear hW hS hx8 hy8 hs8
  have HL9 := Lib.hid ((HL8.out).addL (m := 30) enc0_len (by omega))
  go_wp2_with fail
  go_end0
  exact ⟨rfl, by simpa only [encModule, encObject, List.append_assoc] using HW9.out, HS0.out.trans HS9.out⟩

set_option maxRecDepth 100000 in
set_option maxHeartbeats 2000000 in
theorem module_bare (p : Nat) (full : Bool) (l : List UInt8) (w : World) (h : Wr w 56 5 [.bool full] p l) (kind : Int) (name : ByteArray) (rel : Int) (hk : I64 kind) (hrel : I64 rel) (hl : Short (200 + name.size) l) :
    Calls Tryz.prog 25 #[.pointer (some ⟨p, 0, none⟩), .agg #[.int .i64 kind, .string name, .int .i64 rel, .slice none 0 0, .slice none 0 0, .slice none 0 0, .slice none 0 0, .slice none 0 0, .slice none 0 0]] w (WPost w 56 [.bool full] p (l ++ encModule kind name rel (enc 0) (enc 0))) := by
  have H := Lib.hid h
  have HW0 := Lib.hid ((h.alloc (.cells #[.pointer (some ⟨p, 0, none⟩)] 54)).alloc (.cells #[.int .i64 kind, .string name, .int .i64 rel, .slice none 0 0, .slice none 0 0, .slice none 0 0, .slice none 0 0, .slice none 0 0, .slice none 0 0] 37))
  have HA0 := Lib.hid ((h.apart (.cells #[.pointer (some ⟨p, 0, none⟩)] 54)).alloc (h.alloc (.cells #[.pointer (some ⟨p, 0, none⟩)] 54)).lt (.cells #[.int .i64 kind, .string name, .int .i64 rel, .slice none 0 0, .slice none 0 0, .slice none 0 0, .slice none 0 0, .slice none 0 0, .slice none 0 0] 37))
  have hA1 := (h.alloc (.cells #[.pointer (some ⟨p, 0, none⟩)] 54)).apart (.cells #[.int .i64 kind, .string name, .int .i64 rel, .slice none 0 0, .slice none 0 0, .slice none 0 0, .slice none 0 0, .slice none 0 0, .slice none 0 0] 37)
  have e1 : (w.alloc (.cells #[.pointer (some ⟨p, 0, none⟩)] 54)).heap.size = w.heap.size + 1 := by simp
  rw [e1] at hA1
  have HA1 := Lib.hid hA1
  have HS0 := Lib.hid ((Step.alloc h.lt (.cells #[.pointer (some ⟨p, 0, none⟩)] 54)).trans (Step.alloc (h.alloc (.cells #[.pointer (some ⟨p, 0, none⟩)] 54)).lt (.cells #[.int .i64 kind, .string name, .int .i64 rel, .slice none 0 0, .slice none 0 0, .slice none 0 0, .slice none 0 0, .slice none 0 0, .slice none 0 0] 37)))
  clear h hA1 e1 
  have hmf : ∀ (fn : Fn) (first cap : Array Value) (w : World), (Instr.makeFunc fn first cap).run Tryz.prog w = .ok (.func fn first cap) w := fun _ _ _ _ => rfl
  go_enter Tryz.func25, Tryz.ntmps25
  go_wp2_with fail
  refine (numbers_one' p full kind _ _ HW0.out hk ((hl).mono (by omega)) (w.heap.size + 2) (by simp)).mono ?_
  rintro e w1 ⟨rfl, hW, hS⟩
  have HS1 := Lib.hid hS
  have HW1 := Lib.hid hW
  have hx1 := HS1.out.cellA HA0.out
  have hy1 := HS1.out.cellA HA1.out
  have hs1 : w.heap.size + 1 < w1.heap.size := (HS1.out.apart HA1.out).1
  clear hW hS
  have HL1 := Lib.hid ((hl).addL (m := 190 + name.size) (enc_len hk) (by omega))
  go_wp2_with fail
  refine (text_any p full name _ _ HW1.out ((HL1.out).mono (by omega))).mono ?_
  rintro e w2 ⟨rfl, hW, hS⟩
  have HS2 := Lib.hid (HS1.out.trans hS)
  have HW2 := Lib.hid hW
  have hx2 := HS2.out.cellA HA0.out
  have hy2 := HS2.out.cellA HA1.out
  have hs2 : w.heap.size + 1 < w2.heap.size := (HS2.out.apart HA1.out).1
  clear hW hS hx1 hy1 hs1
  have HL2 := Lib.hid ((HL1.out).addL (m := 180) (encS_le (s := name) (HL1.out.i64 (m := name.size) (by omega))) (by omega))
  go_wp2_with fail
  refine (numbers_one p full rel _ _ HW2.out hrel ((HL2.out).mono (by omega))).mono ?_
  rintro e w3 ⟨rfl, hW, hS⟩
  have HS3 := Lib.hid (HS2.out.trans hS)
  have HW3 := Lib.hid hW
  have hx3 := HS3.out.cellA HA0.out
  have hy3 := HS3.out.cellA HA1.out
  have hs3 : w.heap.size + 1 < w3.heap.size := (HS3.out.apart HA1.out).1
  clear hW hS hx2 hy2 hs2
  have HL3 := Lib.hid ((HL2.out).addL (m := 170) (enc_len hrel) (by omega))
  go_wp2_with fail
  refine (write75_nil p full _ _ HW3.out ((HL3.out).mono (by omega)) _ _ _).mono ?_
  rintro e w4 ⟨rfl, hW, hS⟩
  have HS4 := Lib.hid (HS3.out.trans hS)
  have HW4 := Lib.hid hW
  have hx4 := HS4.out.cellA HA0.out
  have hy4 := HS4.out.cellA HA1.out
  have hs4 : w.heap.size + 1 < w4.heap.size := (HS4.out.apart HA1.out).1
  clear hW hS hx3 hy3 hs3
  have HL4 := Lib.hid ((HL3.out).addL (m := 140) enc0_len (by omega))
  go_wp2_with fail
  refine (write77_nil p full _ _ HW4.out ((HL4.out).mono (by omega)) _ _ _).mono ?_
  rintro e w5 ⟨rfl, hW, hS⟩
  have HS5 := Lib.hid (HS4.out.trans hS)
  have HW5 := Lib.hid hW
  have hx5 := HS5.out.cellA HA0.out
  have hy5 := HS5.out.cellA HA1.out
  have hs5 : w.heap.size + 1 < w5.heap.size := (HS5.out.apart HA1.out).1
  clear hW hS hx4 hy4 hs4
  have HL5 := Lib.hid ((HL4.out).addL (m := 70) enc0_len (by omega))
  go_wp2_with fail
  refine (write83_nil p full _ _ HW5.out ((HL5.out).mono (by omega)) _ _ _).mono ?_
  rintro e w6 ⟨rfl, hW, hS⟩
  have HS6 := Lib.hid (HS5.out.trans hS)
  have HW6 := Lib.hid hW
  have hx6 := HS6.out.cellA HA0.out
  have hy6 := HS6.out.cellA HA1.out
  have hs6 : w.heap.size + 1 < w6.heap.size := (HS6.out.apart HA1.out).1
  clear hW hS hx5 hy5 hs5
  have HL6 := Lib.hid ((HL5.out).addL (m := 60) enc0_len (by omega))
  go_wp2_with fail
  refine (write88_nil p full _ _ HW6.out ((HL6.out).mono (by omega)) _ _ _).mono ?_
  rintro e w7 ⟨rfl, hW, hS⟩
  have HS7 := Lib.hid (HS6.out.trans hS)
  have HW7 := Lib.hid hW
  have hx7 := HS7.out.cellA HA0.out
  have hy7 := HS7.out.cellA HA1.out
  have hs7 : w.heap.size + 1 < w7.heap.size := (HS7.out.apart HA1.out).1
  clear hW hS hx6 hy6 hs6
  have HL7 := Lib.hid ((HL6.out).addL (m := 50) enc0_len (by omega))
  go_wp2_with fail
  refine (write92_nil p full _ _ HW7.out ((HL7.out).mono (by omega)) _ _ _).mono ?_
  rintro e w8 ⟨rfl, hW, hS⟩
  have HS8 := Lib.hid (HS7.out.trans hS)
  have HW8 := Lib.hid hW
  have hx8 := HS8.out.cellA HA0.out
  have hy8 := HS8.out.cellA HA1.out
  have hs8 : w.heap.size + 1 < w8.heap.size := (HS8.out.apart HA1.out).1
  clear hW hS hx7 hy7 hs7
  have HL8 := Lib.hid ((HL7.out).addL (m := 40) enc0_len (by omega))
  go_wp2_with fail
  refine (write98_nil p full _ _ HW8.out ((HL8.out).mono (by omega)) _ _ _).mono ?_
  rintro e w9 ⟨rfl, hW, hS⟩
  have HS9 := Lib.hid (HS8.out.trans hS)
  have HW9 := Lib.hid hW
  have hx9 := HS9.out.cellA HA0.out
  have hy9 := HS9.out.cellA HA1.out
  have hs9 : w.heap.size + 1 < w9.heap.size := (HS9.out.apart HA1.out).1
  clear hW hS hx8 hy8 hs8
  have HL9 := Lib.hid ((HL8.out).addL (m := 30) enc0_len (by omega))
  go_wp2_with fail
  go_end0
  exact ⟨rfl, by simpa only [encModule, encObject, List.append_assoc] using HW9.out, HS0.out.trans HS9.out⟩

end Go.Proofs.YtgliaafiompilabGreatDoor

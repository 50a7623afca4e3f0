/- The walks of the reference's module and of the rest of an object. -/
import Derived.Test.YtgliaafiompilabGreatDoorWg
namespace Go.Proofs.YtgliaafiompilabGreatDoor
open Go.RowKit Go.Lib

set_option maxRecDepth 100000 in
set_option maxHeartbeats 4000000 in
theorem omodule_full (p : Nat) (l : List UInt8) (w : World) (h : Wr w 62 5 [] p l) (kind : Int) (name : ByteArray) (rel : Int) (hk : I64 kind) (hrel : I64 rel) (s : ByteArray) (r : Int) (hr : I64 r) (since : Int) (b1 b2 : Bool) (t : ByteArray) (hsi : I64 since) (bi ci bs cs : Nat) (hl : Short (300 + name.size + s.size + t.size) l) (hbi0 : w.cell? ⟨bi, 0, none⟩ = some (.string s)) (hbi1 : w.cell? ⟨bi, 1, none⟩ = some (.int .i64 r)) (abi : Apart p w bi) (hbs0 : w.cell? ⟨bs, 0, none⟩ = some (.int .i64 since)) (hbs1 : w.cell? ⟨bs, 1, none⟩ = some (.bool b1)) (hbs2 : w.cell? ⟨bs, 2, none⟩ = some (.bool b2)) (hbs3 : w.cell? ⟨bs, 3, none⟩ = some (.string t)) (hbs4 : w.cell? ⟨bs, 4, none⟩ = some (.slice none 0 0)) (hbs5 : w.cell? ⟨bs, 5, none⟩ = some (.slice none 0 0)) (abs : Apart p w bs) :
    Calls Tryz.prog 14 #[.pointer (some ⟨p, 0, none⟩), .agg #[.int .i64 kind, .string name, .int .i64 rel, .slice (some ⟨bi, 0, none⟩) 1 ci, .slice (some ⟨bs, 0, none⟩) 1 cs, .slice none 0 0, .slice none 0 0, .slice none 0 0, .slice none 0 0]] w (WPost w 62 [] p (l ++ encModule kind name rel (enc 1 ++ (encS s.data.toList ++ enc r)) (enc 1 ++ encStruct since b1 b2 t))) := by
  have HW0 := Lib.hid (h.alloc (.cells #[.int .i64 kind, .string name, .int .i64 rel, .slice (some ⟨bi, 0, none⟩) 1 ci, .slice (some ⟨bs, 0, none⟩) 1 cs, .slice none 0 0, .slice none 0 0, .slice none 0 0, .slice none 0 0] 37))
  have HB := Lib.hid (h.apart (.cells #[.int .i64 kind, .string name, .int .i64 rel, .slice (some ⟨bi, 0, none⟩) 1 ci, .slice (some ⟨bs, 0, none⟩) 1 cs, .slice none 0 0, .slice none 0 0, .slice none 0 0, .slice none 0 0] 37))
  have HS0 := Lib.hid (Step.alloc h.lt (.cells #[.int .i64 kind, .string name, .int .i64 rel, .slice (some ⟨bi, 0, none⟩) 1 ci, .slice (some ⟨bs, 0, none⟩) 1 cs, .slice none 0 0, .slice none 0 0, .slice none 0 0, .slice none 0 0] 37))
  have HAbi := Lib.hid abi
  have Hbi0 := Lib.hid hbi0
  have Hbi1 := Lib.hid hbi1
  have HAbs := Lib.hid abs
  have Hbs0 := Lib.hid hbs0
  have Hbs1 := Lib.hid hbs1
  have Hbs2 := Lib.hid hbs2
  have Hbs3 := Lib.hid hbs3
  have Hbs4 := Lib.hid hbs4
  have Hbs5 := Lib.hid hbs5
  clear h abi hbi0 hbi1 abs hbs0 hbs1 hbs2 hbs3 hbs4 hbs5
  go_enter Tryz.func14, Tryz.ntmps14
  have HT0 := Lib.hid (Step.refl p (w.alloc (.cells #[.int .i64 kind, .string name, .int .i64 rel, .slice (some ⟨bi, 0, none⟩) 1 ci, .slice (some ⟨bs, 0, none⟩) 1 cs, .slice none 0 0, .slice none 0 0, .slice none 0 0, .slice none 0 0] 37)))
  go_wp2_with fail
  refine (onum_any p kind _ _ HW0.out hk ((hl).mono (by omega))).mono ?_
  rintro e w1 ⟨rfl, hW, hS⟩
  have HS1 := Lib.hid (HS0.out.trans hS)
  have HT1 := Lib.hid (HT0.out.trans hS)
  have HW1 := Lib.hid hW
  clear hW hS
  have hx1 := HT1.out.cellA HB.out
  have hs1 := (HT1.out.apart HB.out).1
  have HL1 := Lib.hid ((hl).addL (m := 290 + name.size + s.size + t.size) (enc_len hk) (by omega))
  go_wp2_with fail
  refine (ostr_any p name _ _ HW1.out ((HL1.out).mono (by omega))).mono ?_
  rintro e w2 ⟨rfl, hW, hS⟩
  have HS2 := Lib.hid (HS1.out.trans hS)
  have HT2 := Lib.hid (HT1.out.trans hS)
  have HW2 := Lib.hid hW
  clear hW hS
  clear hx1 hs1
  have hx2 := HT2.out.cellA HB.out
  have hs2 := (HT2.out.apart HB.out).1
  have HL2 := Lib.hid ((HL1.out).addL (m := 280 + s.size + t.size) (encS_le (s := name) (HL1.out.i64 (m := name.size) (by omega))) (by omega))
  go_wp2_with fail
  refine (onum_any p rel _ _ HW2.out hrel ((HL2.out).mono (by omega))).mono ?_
  rintro e w3 ⟨rfl, hW, hS⟩
  have HS3 := Lib.hid (HS2.out.trans hS)
  have HT3 := Lib.hid (HT2.out.trans hS)
  have HW3 := Lib.hid hW
  clear hW hS
  clear hx2 hs2
  have hx3 := HT3.out.cellA HB.out
  have hs3 := (HT3.out.apart HB.out).1
  have HL3 := Lib.hid ((HL2.out).addL (m := 270 + s.size + t.size) (enc_len hrel) (by omega))
  go_wp2_with fail
  refine (onum_any p 1 _ _ HW3.out (by decide) ((HL3.out).mono (by omega))).mono ?_
  rintro e w4 ⟨rfl, hW, hS⟩
  have HS4 := Lib.hid (HS3.out.trans hS)
  have HT4 := Lib.hid (HT3.out.trans hS)
  have HW4 := Lib.hid hW
  clear hW hS
  clear hx3 hs3
  have hx4 := HT4.out.cellA HB.out
  have hs4 := (HT4.out.apart HB.out).1
  have hi4_0 := (HS4.out.cellA HAbi.out 0).trans Hbi0.out
  have hi4_1 := (HS4.out.cellA HAbi.out 1).trans Hbi1.out
  have HL4 := Lib.hid ((HL3.out).addL (m := 260 + s.size + t.size) (enc_len (n := 1) (by decide)) (by omega))
  go_wp2_with fail
  refine wp_loop_rounds 2 ?_
  rw [rounds_succ]
  go_wp2_with fail
  refine (ostr_any p s _ _ HW4.out ((HL4.out).mono (by omega))).mono ?_
  rintro e w5 ⟨rfl, hW, hS⟩
  have HS5 := Lib.hid (HS4.out.trans hS)
  have HT5 := Lib.hid (HT4.out.trans hS)
  have HW5 := Lib.hid hW
  clear hW hS
  clear hx4 hs4 hi4_0 hi4_1
  have hx5 := HT5.out.cellA HB.out
  have hs5 := (HT5.out.apart HB.out).1
  have hi5_0 := (HS5.out.cellA HAbi.out 0).trans Hbi0.out
  have hi5_1 := (HS5.out.cellA HAbi.out 1).trans Hbi1.out
  have HL5 := Lib.hid ((HL4.out).addL (m := 250 + t.size) (encS_le (s := s) (HL4.out.i64 (m := s.size) (by omega))) (by omega))
  go_wp2_with fail
  refine (onum_any p r _ _ HW5.out hr ((HL5.out).mono (by omega))).mono ?_
  rintro e w6 ⟨rfl, hW, hS⟩
  have HS6 := Lib.hid (HS5.out.trans hS)
  have HT6 := Lib.hid (HT5.out.trans hS)
  have HW6 := Lib.hid hW
  clear hW hS
  clear hx5 hs5 hi5_0 hi5_1
  have hx6 := HT6.out.cellA HB.out
  have hs6 := (HT6.out.apart HB.out).1
  have hi6_0 := (HS6.out.cellA HAbi.out 0).trans Hbi0.out
  have hi6_1 := (HS6.out.cellA HAbi.out 1).trans Hbi1.out
  have HL6 := Lib.hid ((HL5.out).addL (m := 240 + t.size) (enc_len hr) (by omega))
  go_wp2_with fail
  rw [rounds_succ]
  go_wp2_with fail
  refine (onum_any p 1 _ _ HW6.out (by decide) ((HL6.out).mono (by omega))).mono ?_
  rintro e w7 ⟨rfl, hW, hS⟩
  have HS7 := Lib.hid (HS6.out.trans hS)
  have HT7 := Lib.hid (HT6.out.trans hS)
  have HW7 := Lib.hid hW
  clear hW hS
  clear hx6 hs6 hi6_0 hi6_1
  have hx7 := HT7.out.cellA HB.out
  have hs7 := (HT7.out.apart HB.out).1
  have hi7_0 := (HS7.out.cellA HAbs.out 0).trans Hbs0.out
  have hi7_1 := (HS7.out.cellA HAbs.out 1).trans Hbs1.out
  have hi7_2 := (HS7.out.cellA HAbs.out 2).trans Hbs2.out
  have hi7_3 := (HS7.out.cellA HAbs.out 3).trans Hbs3.out
  have hi7_4 := (HS7.out.cellA HAbs.out 4).trans Hbs4.out
  have hi7_5 := (HS7.out.cellA HAbs.out 5).trans Hbs5.out
  have HL7 := Lib.hid ((HL6.out).addL (m := 230 + t.size) (enc_len (n := 1) (by decide)) (by omega))
  go_wp2_with fail
  refine wp_loop_rounds 2 ?_
  rw [rounds_succ]
  have HBS := Lib.hid (HW7.out.apart (.cells #[.int .i64 since, .bool b1, .bool b2, .string t, .slice none 0 0, .slice none 0 0] 30))
  have HWX := Lib.hid (HW7.out.alloc (.cells #[.int .i64 since, .bool b1, .bool b2, .string t, .slice none 0 0, .slice none 0 0] 30))
  go_wp2_with fail
  refine (onum_any p since _ _ HWX.out hsi ((HL7.out).mono (by omega))).mono ?_
  rintro e w8 ⟨rfl, hW, hS⟩
  have HS8 := Lib.hid (HS7.out.trans ((Step.alloc HW7.out.lt (.cells #[.int .i64 since, .bool b1, .bool b2, .string t, .slice none 0 0, .slice none 0 0] 30)).trans hS))
  have HT8 := Lib.hid (HT7.out.trans ((Step.alloc HW7.out.lt (.cells #[.int .i64 since, .bool b1, .bool b2, .string t, .slice none 0 0, .slice none 0 0] 30)).trans hS))
  have HW8 := Lib.hid hW
  have HU8 := Lib.hid hS
  clear hW hS
  clear hx7 hs7 hi7_0 hi7_1 hi7_2 hi7_3 hi7_4 hi7_5
  have hx8 := HT8.out.cellA HB.out
  have hs8 := (HT8.out.apart HB.out).1
  have hb8 := HU8.out.cellA HBS.out
  have hc8 := (HU8.out.apart HBS.out).1
  have HL8 := Lib.hid ((HL7.out).addL (m := 220 + t.size) (enc_len hsi) (by omega))
  go_wp2_with fail
  refine (otruth_any p b1 _ _ HW8.out ((HL8.out).mono (by omega))).mono ?_
  rintro e w9 ⟨rfl, hW, hS⟩
  have HS9 := Lib.hid (HS8.out.trans hS)
  have HT9 := Lib.hid (HT8.out.trans hS)
  have HW9 := Lib.hid hW
  have HU9 := Lib.hid (HU8.out.trans hS)
  clear hW hS
  clear hx8 hs8 hb8 hc8
  have hx9 := HT9.out.cellA HB.out
  have hs9 := (HT9.out.apart HB.out).1
  have hb9 := HU9.out.cellA HBS.out
  have hc9 := (HU9.out.apart HBS.out).1
  have HL9 := Lib.hid ((HL8.out).addL (m := 210 + t.size) (encB_len b1) (by omega))
  go_wp2_with fail
  refine (otruth_any p b2 _ _ HW9.out ((HL9.out).mono (by omega))).mono ?_
  rintro e w10 ⟨rfl, hW, hS⟩
  have HS10 := Lib.hid (HS9.out.trans hS)
  have HT10 := Lib.hid (HT9.out.trans hS)
  have HW10 := Lib.hid hW
  have HU10 := Lib.hid (HU9.out.trans hS)
  clear hW hS
  clear hx9 hs9 hb9 hc9
  have hx10 := HT10.out.cellA HB.out
  have hs10 := (HT10.out.apart HB.out).1
  have hb10 := HU10.out.cellA HBS.out
  have hc10 := (HU10.out.apart HBS.out).1
  have HL10 := Lib.hid ((HL9.out).addL (m := 200 + t.size) (encB_len b2) (by omega))
  go_wp2_with fail
  refine (ostr_any p t _ _ HW10.out ((HL10.out).mono (by omega))).mono ?_
  rintro e w11 ⟨rfl, hW, hS⟩
  have HS11 := Lib.hid (HS10.out.trans hS)
  have HT11 := Lib.hid (HT10.out.trans hS)
  have HW11 := Lib.hid hW
  have HU11 := Lib.hid (HU10.out.trans hS)
  clear hW hS
  clear hx10 hs10 hb10 hc10
  have hx11 := HT11.out.cellA HB.out
  have hs11 := (HT11.out.apart HB.out).1
  have hb11 := HU11.out.cellA HBS.out
  have hc11 := (HU11.out.apart HBS.out).1
  have HL11 := Lib.hid ((HL10.out).addL (m := 190) (encS_le (s := t) (HL10.out.i64 (m := t.size) (by omega))) (by omega))
  go_wp2_with fail
  refine (ostrs_nil p _ _ HW11.out ((HL11.out).mono (by omega))).mono ?_
  rintro e w12 ⟨rfl, hW, hS⟩
  have HS12 := Lib.hid (HS11.out.trans hS)
  have HT12 := Lib.hid (HT11.out.trans hS)
  have HW12 := Lib.hid hW
  have HU12 := Lib.hid (HU11.out.trans hS)
  clear hW hS
  clear hx11 hs11 hb11 hc11
  have hx12 := HT12.out.cellA HB.out
  have hs12 := (HT12.out.apart HB.out).1
  have hb12 := HU12.out.cellA HBS.out
  have hc12 := (HU12.out.apart HBS.out).1
  have HL12 := Lib.hid ((HL11.out).addL (m := 180) enc0_len (by omega))
  go_wp2_with fail
  refine (onum_any p 0 _ _ HW12.out (by decide) ((HL12.out).mono (by omega))).mono ?_
  rintro e w13 ⟨rfl, hW, hS⟩
  have HS13 := Lib.hid (HS12.out.trans hS)
  have HT13 := Lib.hid (HT12.out.trans hS)
  have HW13 := Lib.hid hW
  have HU13 := Lib.hid (HU12.out.trans hS)
  clear hW hS
  clear hx12 hs12 hb12 hc12
  have hx13 := HT13.out.cellA HB.out
  have hs13 := (HT13.out.apart HB.out).1
  have hb13 := HU13.out.cellA HBS.out
  have hc13 := (HU13.out.apart HBS.out).1
  have HL13 := Lib.hid ((HL12.out).addL (m := 170) enc0_len (by omega))
  go_wp2_with fail
  refine wp_loop_rounds 1 ?_
  rw [rounds_succ]
  go_wp2_with fail
  rw [rounds_succ]
  go_wp2_with fail
  refine (onum_any p 0 _ _ HW13.out (by decide) ((HL13.out).mono (by omega))).mono ?_
  rintro e w14 ⟨rfl, hW, hS⟩
  have HS14 := Lib.hid (HS13.out.trans hS)
  have HT14 := Lib.hid (HT13.out.trans hS)
  have HW14 := Lib.hid hW
  clear hW hS
  clear hx13 hs13 hb13 hc13
  have hx14 := HT14.out.cellA HB.out
  have hs14 := (HT14.out.apart HB.out).1
  have HL14 := Lib.hid ((HL13.out).addL (m := 160) enc0_len (by omega))
  go_wp2_with fail
  refine wp_loop_rounds 1 ?_
  rw [rounds_succ]
  go_wp2_with fail
  refine (onum_any p 0 _ _ HW14.out (by decide) ((HL14.out).mono (by omega))).mono ?_
  rintro e w15 ⟨rfl, hW, hS⟩
  have HS15 := Lib.hid (HS14.out.trans hS)
  have HT15 := Lib.hid (HT14.out.trans hS)
  have HW15 := Lib.hid hW
  clear hW hS
  clear hx14 hs14
  have hx15 := HT15.out.cellA HB.out
  have hs15 := (HT15.out.apart HB.out).1
  have HL15 := Lib.hid ((HL14.out).addL (m := 150) enc0_len (by omega))
  go_wp2_with fail
  refine wp_loop_rounds 1 ?_
  rw [rounds_succ]
  go_wp2_with fail
  refine (onum_any p 0 _ _ HW15.out (by decide) ((HL15.out).mono (by omega))).mono ?_
  rintro e w16 ⟨rfl, hW, hS⟩
  have HS16 := Lib.hid (HS15.out.trans hS)
  have HT16 := Lib.hid (HT15.out.trans hS)
  have HW16 := Lib.hid hW
  clear hW hS
  clear hx15 hs15
  have hx16 := HT16.out.cellA HB.out
  have hs16 := (HT16.out.apart HB.out).1
  have HL16 := Lib.hid ((HL15.out).addL (m := 140) enc0_len (by omega))
  go_wp2_with fail
  refine wp_loop_rounds 1 ?_
  rw [rounds_succ]
  go_wp2_with fail
  refine (onum_any p 0 _ _ HW16.out (by decide) ((HL16.out).mono (by omega))).mono ?_
  rintro e w17 ⟨rfl, hW, hS⟩
  have HS17 := Lib.hid (HS16.out.trans hS)
  have HT17 := Lib.hid (HT16.out.trans hS)
  have HW17 := Lib.hid hW
  clear hW hS
  clear hx16 hs16
  have hx17 := HT17.out.cellA HB.out
  have hs17 := (HT17.out.apart HB.out).1
  have HL17 := Lib.hid ((HL16.out).addL (m := 130) enc0_len (by omega))
  go_wp2_with fail
  refine wp_loop_rounds 1 ?_
  rw [rounds_succ]
  go_wp2_with fail
  go_end0
  exact ⟨rfl, by simpa only [encModule, encObject, encStruct, List.append_assoc] using HW17.out, HS17.out⟩

set_option maxRecDepth 100000 in
set_option maxHeartbeats 4000000 in
theorem omodule_bare (p : Nat) (l : List UInt8) (w : World) (h : Wr w 62 5 [] p l) (kind : Int) (name : ByteArray) (rel : Int) (hk : I64 kind) (hrel : I64 rel) (hl : Short (300 + name.size) l) :
    Calls Tryz.prog 14 #[.pointer (some ⟨p, 0, none⟩), .agg #[.int .i64 kind, .string name, .int .i64 rel, .slice none 0 0, .slice none 0 0, .slice none 0 0, .slice none 0 0, .slice none 0 0, .slice none 0 0]] w (WPost w 62 [] p (l ++ encModule kind name rel (enc 0) (enc 0))) := by
  have HW0 := Lib.hid (h.alloc (.cells #[.int .i64 kind, .string name, .int .i64 rel, .slice none 0 0, .slice none 0 0, .slice none 0 0, .slice none 0 0, .slice none 0 0, .slice none 0 0] 37))
  have HB := Lib.hid (h.apart (.cells #[.int .i64 kind, .string name, .int .i64 rel, .slice none 0 0, .slice none 0 0, .slice none 0 0, .slice none 0 0, .slice none 0 0, .slice none 0 0] 37))
  have HS0 := Lib.hid (Step.alloc h.lt (.cells #[.int .i64 kind, .string name, .int .i64 rel, .slice none 0 0, .slice none 0 0, .slice none 0 0, .slice none 0 0, .slice none 0 0, .slice none 0 0] 37))
  clear h 
  go_enter Tryz.func14, Tryz.ntmps14
  have HT0 := Lib.hid (Step.refl p (w.alloc (.cells #[.int .i64 kind, .string name, .int .i64 rel, .slice none 0 0, .slice none 0 0, .slice none 0 0, .slice none 0 0, .slice none 0 0, .slice none 0 0] 37)))
  go_wp2_with fail
  refine (onum_any p kind _ _ HW0.out hk ((hl).mono (by omega))).mono ?_
  rintro e w1 ⟨rfl, hW, hS⟩
  have HS1 := Lib.hid (HS0.out.trans hS)
  have HT1 := Lib.hid (HT0.out.trans hS)
  have HW1 := Lib.hid hW
  clear hW hS
  have hx1 := HT1.out.cellA HB.out
  have hs1 := (HT1.out.apart HB.out).1
  have HL1 := Lib.hid ((hl).addL (m := 290 + name.size) (enc_len hk) (by omega))
  go_wp2_with fail
  refine (ostr_any p name _ _ HW1.out ((HL1.out).mono (by omega))).mono ?_
  rintro e w2 ⟨rfl, hW, hS⟩
  have HS2 := Lib.hid (HS1.out.trans hS)
  have HT2 := Lib.hid (HT1.out.trans hS)
  have HW2 := Lib.hid hW
  clear hW hS
  clear hx1 hs1
  have hx2 := HT2.out.cellA HB.out
  have hs2 := (HT2.out.apart HB.out).1
  have HL2 := Lib.hid ((HL1.out).addL (m := 280) (encS_le (s := name) (HL1.out.i64 (m := name.size) (by omega))) (by omega))
  go_wp2_with fail
  refine (onum_any p rel _ _ HW2.out hrel ((HL2.out).mono (by omega))).mono ?_
  rintro e w3 ⟨rfl, hW, hS⟩
  have HS3 := Lib.hid (HS2.out.trans hS)
  have HT3 := Lib.hid (HT2.out.trans hS)
  have HW3 := Lib.hid hW
  clear hW hS
  clear hx2 hs2
  have hx3 := HT3.out.cellA HB.out
  have hs3 := (HT3.out.apart HB.out).1
  have HL3 := Lib.hid ((HL2.out).addL (m := 270) (enc_len hrel) (by omega))
  go_wp2_with fail
  refine (onum_any p 0 _ _ HW3.out (by decide) ((HL3.out).mono (by omega))).mono ?_
  rintro e w4 ⟨rfl, hW, hS⟩
  have HS4 := Lib.hid (HS3.out.trans hS)
  have HT4 := Lib.hid (HT3.out.trans hS)
  have HW4 := Lib.hid hW
  clear hW hS
  clear hx3 hs3
  have hx4 := HT4.out.cellA HB.out
  have hs4 := (HT4.out.apart HB.out).1
  have HL4 := Lib.hid ((HL3.out).addL (m := 260) enc0_len (by omega))
  go_wp2_with fail
  refine wp_loop_rounds 1 ?_
  rw [rounds_succ]
  go_wp2_with fail
  refine (onum_any p 0 _ _ HW4.out (by decide) ((HL4.out).mono (by omega))).mono ?_
  rintro e w5 ⟨rfl, hW, hS⟩
  have HS5 := Lib.hid (HS4.out.trans hS)
  have HT5 := Lib.hid (HT4.out.trans hS)
  have HW5 := Lib.hid hW
  clear hW hS
  clear hx4 hs4
  have hx5 := HT5.out.cellA HB.out
  have hs5 := (HT5.out.apart HB.out).1
  have HL5 := Lib.hid ((HL4.out).addL (m := 250) enc0_len (by omega))
  go_wp2_with fail
  refine wp_loop_rounds 1 ?_
  rw [rounds_succ]
  go_wp2_with fail
  refine (onum_any p 0 _ _ HW5.out (by decide) ((HL5.out).mono (by omega))).mono ?_
  rintro e w6 ⟨rfl, hW, hS⟩
  have HS6 := Lib.hid (HS5.out.trans hS)
  have HT6 := Lib.hid (HT5.out.trans hS)
  have HW6 := Lib.hid hW
  clear hW hS
  clear hx5 hs5
  have hx6 := HT6.out.cellA HB.out
  have hs6 := (HT6.out.apart HB.out).1
  have HL6 := Lib.hid ((HL5.out).addL (m := 160) enc0_len (by omega))
  go_wp2_with fail
  refine wp_loop_rounds 1 ?_
  rw [rounds_succ]
  go_wp2_with fail
  refine (onum_any p 0 _ _ HW6.out (by decide) ((HL6.out).mono (by omega))).mono ?_
  rintro e w7 ⟨rfl, hW, hS⟩
  have HS7 := Lib.hid (HS6.out.trans hS)
  have HT7 := Lib.hid (HT6.out.trans hS)
  have HW7 := Lib.hid hW
  clear hW hS
  clear hx6 hs6
  have hx7 := HT7.out.cellA HB.out
  have hs7 := (HT7.out.apart HB.out).1
  have HL7 := Lib.hid ((HL6.out).addL (m := 150) enc0_len (by omega))
  go_wp2_with fail
  refine wp_loop_rounds 1 ?_
  rw [rounds_succ]
  go_wp2_with fail
  refine (onum_any p 0 _ _ HW7.out (by decide) ((HL7.out).mono (by omega))).mono ?_
  rintro e w8 ⟨rfl, hW, hS⟩
  have HS8 := Lib.hid (HS7.out.trans hS)
  have HT8 := Lib.hid (HT7.out.trans hS)
  have HW8 := Lib.hid hW
  clear hW hS
  clear hx7 hs7
  have hx8 := HT8.out.cellA HB.out
  have hs8 := (HT8.out.apart HB.out).1
  have HL8 := Lib.hid ((HL7.out).addL (m := 140) enc0_len (by omega))
  go_wp2_with fail
  refine wp_loop_rounds 1 ?_
  rw [rounds_succ]
  go_wp2_with fail
  refine (onum_any p 0 _ _ HW8.out (by decide) ((HL8.out).mono (by omega))).mono ?_
  rintro e w9 ⟨rfl, hW, hS⟩
  have HS9 := Lib.hid (HS8.out.trans hS)
  have HT9 := Lib.hid (HT8.out.trans hS)
  have HW9 := Lib.hid hW
  clear hW hS
  clear hx8 hs8
  have hx9 := HT9.out.cellA HB.out
  have hs9 := (HT9.out.apart HB.out).1
  have HL9 := Lib.hid ((HL8.out).addL (m := 130) enc0_len (by omega))
  go_wp2_with fail
  refine wp_loop_rounds 1 ?_
  rw [rounds_succ]
  go_wp2_with fail
  go_end0
  exact ⟨rfl, by simpa only [encModule, encObject, encStruct, List.append_assoc] using HW9.out, HS9.out⟩

end Go.Proofs.YtgliaafiompilabGreatDoor

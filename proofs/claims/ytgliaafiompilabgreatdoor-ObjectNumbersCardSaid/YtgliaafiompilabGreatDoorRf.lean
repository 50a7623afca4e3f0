/- The walk of the reader's object. -/
import Derived.Test.YtgliaafiompilabGreatDoorRe
namespace Go.Proofs.YtgliaafiompilabGreatDoor
open Go.RowKit Go.Lib

/-- What reading an object with one import, one struct, and what it was compiled against, comes to. -/
def ROFull (w : World) (p : Nat) (full : Bool) (kind : Int) (name : ByteArray) (rel : Int) (s : ByteArray) (r : Int) (since : Int) (b1 b2 : Bool) (t : ByteArray) (u : ByteArray) (ar : Int) (d : Nat) (l : List UInt8) (g : Nat) (e : Ending) (w' : World) : Prop :=
  ∃ bi ci bs cs ba ca, e = .returned (.agg #[.int .i64 kind, .string name, .int .i64 rel, .slice (some ⟨bi, 0, none⟩) 1 ci, .slice (some ⟨bs, 0, none⟩) 1 cs, .slice none 0 0, .slice none 0 0, .slice none 0 0, .slice none 0 0, .slice none 0 0, .slice none 0 0, .slice (some ⟨ba, 0, none⟩) 1 ca]) ∧
    (∀ j x, [Value.string s, .int .i64 r][j]? = some x → w'.cell? ⟨bi, j, none⟩ = some x) ∧ (∀ j x, [Value.int .i64 since, .bool b1, .bool b2, .string t, .slice none 0 0, .slice none 0 0][j]? = some x → w'.cell? ⟨bs, j, none⟩ = some x) ∧
    (∀ j x, [Value.string u, .int .i64 ar, .int .u64 d][j]? = some x → w'.cell? ⟨ba, j, none⟩ = some x) ∧ (∃ off c, Rr w' p full l g off c) ∧ FStep p w w'

set_option maxRecDepth 100000 in
set_option maxHeartbeats 4000000 in
theorem robject_bare (w : World) (p : Nat) (full : Bool) (l : List UInt8) (g off c : Nat) (kind : Int) (name : ByteArray) (rel : Int) (hk : I64 kind) (hn : I64 (name.size : Int)) (hrel : I64 rel) (h : Rr w p full (encObject (encModule kind name rel (enc 0) (enc 0)) (enc 0) ++ l) g off c) :
    Calls Tryz.prog 19 #[.pointer (some ⟨p, 0, none⟩)] w (NPost w p full (.agg #[.int .i64 kind, .string name, .int .i64 rel, .slice none 0 0, .slice none 0 0, .slice none 0 0, .slice none 0 0, .slice none 0 0, .slice none 0 0, .slice none 0 0, .slice none 0 0, .slice none 0 0]) l g) := by
  have hpl := h.lt
  have hgl : g < w.heap.size := h.2.2.2.2.1
  have eb : encObject (encModule kind name rel (enc 0) (enc 0)) (enc 0) ++ l = enc kind ++ (encS name.data.toList ++ (enc rel ++ (enc 0 ++ (enc 0 ++ (enc 0 ++ (enc 0 ++ (enc 0 ++ (enc 0 ++ (enc 0 ++ (enc 0 ++ (enc 0 ++ l))))))))))) := by simp only [encObject, encModule, encStruct, List.append_assoc]
  rw [eb] at h
  have HM0 : Hid (Md 44 w ((w.alloc (.cells #[.pointer (some ⟨p, 0, none⟩)] 64)).alloc (.cells #[.int .i64 0, .string ⟨#[]⟩, .int .i64 0, .slice none 0 0, .slice none 0 0, .slice none 0 0, .slice none 0 0, .slice none 0 0, .slice none 0 0, .slice none 0 0, .slice none 0 0, .slice none 0 0] 44)).drew p full g (enc kind ++ (encS name.data.toList ++ (enc rel ++ (enc 0 ++ (enc 0 ++ (enc 0 ++ (enc 0 ++ (enc 0 ++ (enc 0 ++ (enc 0 ++ (enc 0 ++ (enc 0 ++ l)))))))))))) #[.int .i64 0, .string ⟨#[]⟩, .int .i64 0, .slice none 0 0, .slice none 0 0, .slice none 0 0, .slice none 0 0, .slice none 0 0, .slice none 0 0, .slice none 0 0, .slice none 0 0, .slice none 0 0]) := by
    refine ⟨⟨off, c, ((h.alloc _).alloc _).drew⟩, ?_, ?_, ((FStep.alloc p w _).trans (FStep.alloc p _ _)).trans (FStep.drew p _), hpl, hgl, by simp⟩
    · exact cell_alloc _ (by rw [cell_at (heap_alloc_new w _) 0]; rfl)
    · have e1 : (w.alloc (.cells #[.pointer (some ⟨p, 0, none⟩)] 64)).heap.size = w.heap.size + 1 := by simp
      rw [← e1]
      exact heap_alloc_new _ _
  have HR0 := Lib.hid ((h.alloc (.cells #[.pointer (some ⟨p, 0, none⟩)] 64)).alloc (.cells #[.int .i64 0, .string ⟨#[]⟩, .int .i64 0, .slice none 0 0, .slice none 0 0, .slice none 0 0, .slice none 0 0, .slice none 0 0, .slice none 0 0, .slice none 0 0, .slice none 0 0, .slice none 0 0] 44)).drew
  have hBq : w.heap.size + 1 ≠ w.heap.size := by omega
  have hsz0 := HM0.out.sz
  clear h eb hsz0
  have hmf : ∀ (fn : Fn) (first cap : Array Value) (w : World), (Instr.makeFunc fn first cap).run Tryz.prog w = .ok (.func fn first cap) w := fun _ _ _ _ => rfl
  go_enter Tryz.func19, Tryz.ntmps19
  go_wp2_with fail
  go_region_held3 (fun w' => w'.cell? ⟨w.heap.size, 0, none⟩ = some (.pointer (some ⟨p, 0, none⟩))) (first | (with_reducible exact HM0.out.q) | (with_reducible exact HM1.out.q) | (with_reducible exact HM2.out.q) | ((repeat (with_reducible refine keep_set hBq ?_)); with_reducible exact HM2.out.q))
    (first
      | (go_at_call 49; refine (rmodule_bare _ p full _ g off c kind name rel hk hn hrel HR0.out).mono ?_; rintro e w1 ⟨rfl, ⟨o1, c1, hR⟩, hF⟩; have HM1 := Lib.hid (HM0.out.call ⟨_, _, hR⟩ hF); have HR1 := Lib.hid hR; clear hR hF HR0; have hk1 := HM1.out.cell; have hm1 := HM1.out.froz; have hsz1 := HM1.out.sz)
      | (go_at_call 50; refine (read50_nil _ p full _ g o1 c1 HR1.out _ _ _).mono ?_; rintro e w2 ⟨rfl, ⟨o2, c2, hR⟩, hF⟩; have HM2 := Lib.hid (HM1.out.call ⟨_, _, hR⟩ hF); have HR2 := Lib.hid hR; clear hR hF HR1 hk1 hm1 hsz1; have hk2 := HM2.out.cell; have hm2 := HM2.out.froz; have hsz2 := HM2.out.sz))
  all_goals
    go_wp2_with fail
    have HX0 := Lib.hid (show Md 44 w ((((((((((w2.setCell ⟨w.heap.size + 1, 0, none⟩ (.int .i64 kind)).setCell ⟨w.heap.size + 1, 1, none⟩ (.string name)).setCell ⟨w.heap.size + 1, 2, none⟩ (.int .i64 rel)).setCell ⟨w.heap.size + 1, 3, none⟩ (.slice none 0 0)).setCell ⟨w.heap.size + 1, 4, none⟩ (.slice none 0 0)).setCell ⟨w.heap.size + 1, 5, none⟩ (.slice none 0 0)).setCell ⟨w.heap.size + 1, 6, none⟩ (.slice none 0 0)).setCell ⟨w.heap.size + 1, 7, none⟩ (.slice none 0 0)).setCell ⟨w.heap.size + 1, 8, none⟩ (.slice none 0 0)).setCell ⟨w.heap.size + 1, 9, none⟩ (.slice none 0 0)) p full g _ #[.int .i64 kind, .string name, .int .i64 rel, .slice none 0 0, .slice none 0 0, .slice none 0 0, .slice none 0 0, .slice none 0 0, .slice none 0 0, .slice none 0 0, .slice none 0 0, .slice none 0 0] from by simpa using ((((((((((HM2.out.store 0 (.int .i64 kind)).store 1 (.string name)).store 2 (.int .i64 rel)).store 3 (.slice none 0 0)).store 4 (.slice none 0 0)).store 5 (.slice none 0 0)).store 6 (.slice none 0 0)).store 7 (.slice none 0 0)).store 8 (.slice none 0 0)).store 9 (.slice none 0 0)))
    generalize ((((((((((w2.setCell ⟨w.heap.size + 1, 0, none⟩ (.int .i64 kind)).setCell ⟨w.heap.size + 1, 1, none⟩ (.string name)).setCell ⟨w.heap.size + 1, 2, none⟩ (.int .i64 rel)).setCell ⟨w.heap.size + 1, 3, none⟩ (.slice none 0 0)).setCell ⟨w.heap.size + 1, 4, none⟩ (.slice none 0 0)).setCell ⟨w.heap.size + 1, 5, none⟩ (.slice none 0 0)).setCell ⟨w.heap.size + 1, 6, none⟩ (.slice none 0 0)).setCell ⟨w.heap.size + 1, 7, none⟩ (.slice none 0 0)).setCell ⟨w.heap.size + 1, 8, none⟩ (.slice none 0 0)).setCell ⟨w.heap.size + 1, 9, none⟩ (.slice none 0 0)) = X0 at *
    obtain ⟨p0, d0, HRX0⟩ := HX0.out.rr
    clear hk2 hm2 hsz2
    refine (read52_nil _ p full _ g p0 d0 HRX0 _ _ _).mono ?_
    rintro e y0 ⟨rfl, hR, hF⟩
    have HY0 := Lib.hid (HX0.out.call hR hF)
    clear hR hF
    have hc0 := HY0.out.cell 10
    simp only [List.getElem?_toArray, List.getElem?_cons_zero, List.getElem?_cons_succ] at hc0
    have hm0 := HY0.out.froz 10
    have hq0 := HY0.out.q
    have hs0 := HY0.out.sz
    go_wp2_with fail
    have HX1 := Lib.hid (show Md 44 w (y0.setCell ⟨w.heap.size + 1, 10, none⟩ (.slice none 0 0)) p full g _ #[.int .i64 kind, .string name, .int .i64 rel, .slice none 0 0, .slice none 0 0, .slice none 0 0, .slice none 0 0, .slice none 0 0, .slice none 0 0, .slice none 0 0, .slice none 0 0, .slice none 0 0] from by simpa using HY0.out.store 10 (.slice none 0 0))
    clear hc0 hm0 hq0 hs0
    generalize y0.setCell ⟨w.heap.size + 1, 10, none⟩ (.slice none 0 0) = X1 at *
    obtain ⟨p1, d1, HRX1⟩ := HX1.out.rr
    refine (read56_nil _ p full _ g p1 d1 HRX1 _ _ _).mono ?_
    rintro e y1 ⟨rfl, hR, hF⟩
    have HY1 := Lib.hid (HX1.out.call hR hF)
    clear hR hF
    have hz0 := HY1.out.cell 0
    have hz1 := HY1.out.cell 1
    have hz2 := HY1.out.cell 2
    have hz3 := HY1.out.cell 3
    have hz4 := HY1.out.cell 4
    have hz5 := HY1.out.cell 5
    have hz6 := HY1.out.cell 6
    have hz7 := HY1.out.cell 7
    have hz8 := HY1.out.cell 8
    have hz9 := HY1.out.cell 9
    have hz10 := HY1.out.cell 10
    have hz11 := HY1.out.cell 11
    simp only [List.getElem?_toArray, List.getElem?_cons_zero, List.getElem?_cons_succ] at hz0 hz1 hz2 hz3 hz4 hz5 hz6 hz7 hz8 hz9 hz10 hz11
    have hm1 := HY1.out.froz
    have hq1 := HY1.out.q
    have hs1 := HY1.out.sz
    go_wp2_with fail
    have HE := Lib.hid (((((((((((((HY1.out.store 11 (.slice none 0 0)).store 0 (.int .i64 kind)).store 1 (.string name)).store 2 (.int .i64 rel)).store 3 (.slice none 0 0)).store 4 (.slice none 0 0)).store 5 (.slice none 0 0)).store 6 (.slice none 0 0)).store 7 (.slice none 0 0)).store 8 (.slice none 0 0)).store 9 (.slice none 0 0)).store 10 (.slice none 0 0)).store 11 (.slice none 0 0))
    have hB := HE.out.b
    simp at hB
    have f0 := cell_at hB 0
    have f1 := cell_at hB 1
    have f2 := cell_at hB 2
    have f3 := cell_at hB 3
    have f4 := cell_at hB 4
    have f5 := cell_at hB 5
    have f6 := cell_at hB 6
    have f7 := cell_at hB 7
    have f8 := cell_at hB 8
    have f9 := cell_at hB 9
    have f10 := cell_at hB 10
    have f11 := cell_at hB 11
    simp only [List.getElem?_toArray, List.getElem?_cons_zero, List.getElem?_cons_succ] at f0 f1 f2 f3 f4 f5 f6 f7 f8 f9 f10 f11
    refine bodyPost_ret (v := .agg #[.int .i64 kind, .string name, .int .i64 rel, .slice none 0 0, .slice none 0 0, .slice none 0 0, .slice none 0 0, .slice none 0 0, .slice none 0 0, .slice none 0 0, .slice none 0 0, .slice none 0 0]) (by simp [results, Tryz.results19, go_sem, f0, f1, f2, f3, f4, f5, f6, f7, f8, f9, f10, f11]) rfl ?_
    exact ⟨rfl, HE.out.rr, HE.out.f⟩

set_option maxRecDepth 100000 in
set_option maxHeartbeats 4000000 in
theorem robject_full (w : World) (p : Nat) (full : Bool) (l : List UInt8) (g off c : Nat) (kind : Int) (name : ByteArray) (rel : Int) (hk : I64 kind) (hn : I64 (name.size : Int)) (hrel : I64 rel) (s : ByteArray) (hs : I64 (s.size : Int)) (r : Int) (hr : I64 r) (since : Int) (hsi : I64 since) (b1 b2 : Bool) (t : ByteArray) (ht : I64 (t.size : Int)) (u : ByteArray) (hu : I64 (u.size : Int)) (ar : Int) (har : I64 ar) (d : Nat) (hd : U64 d) (h : Rr w p full (encObject (encModule kind name rel (enc 1 ++ (encS s.data.toList ++ enc r)) (enc 1 ++ encStruct since b1 b2 t)) (enc 1 ++ (encS u.data.toList ++ (enc ar ++ lb d))) ++ l) g off c) :
    Calls Tryz.prog 19 #[.pointer (some ⟨p, 0, none⟩)] w (ROFull w p full kind name rel s r since b1 b2 t u ar d l g) := by
  have hpl := h.lt
  have hgl : g < w.heap.size := h.2.2.2.2.1
  have eb : encObject (encModule kind name rel (enc 1 ++ (encS s.data.toList ++ enc r)) (enc 1 ++ encStruct since b1 b2 t)) (enc 1 ++ (encS u.data.toList ++ (enc ar ++ lb d))) ++ l = enc kind ++ (encS name.data.toList ++ (enc rel ++ (enc 1 ++ (encS s.data.toList ++ (enc r ++ (enc 1 ++ (enc since ++ (encB b1 ++ (encB b2 ++ (encS t.data.toList ++ (enc 0 ++ (enc 0 ++ (enc 0 ++ (enc 0 ++ (enc 0 ++ (enc 0 ++ (enc 0 ++ (enc 0 ++ (enc 1 ++ (encS u.data.toList ++ (enc ar ++ (lb d ++ l)))))))))))))))))))))) := by simp only [encObject, encModule, encStruct, List.append_assoc]
  rw [eb] at h
  have HM0 : Hid (Md 44 w ((w.alloc (.cells #[.pointer (some ⟨p, 0, none⟩)] 64)).alloc (.cells #[.int .i64 0, .string ⟨#[]⟩, .int .i64 0, .slice none 0 0, .slice none 0 0, .slice none 0 0, .slice none 0 0, .slice none 0 0, .slice none 0 0, .slice none 0 0, .slice none 0 0, .slice none 0 0] 44)).drew p full g (enc kind ++ (encS name.data.toList ++ (enc rel ++ (enc 1 ++ (encS s.data.toList ++ (enc r ++ (enc 1 ++ (enc since ++ (encB b1 ++ (encB b2 ++ (encS t.data.toList ++ (enc 0 ++ (enc 0 ++ (enc 0 ++ (enc 0 ++ (enc 0 ++ (enc 0 ++ (enc 0 ++ (enc 0 ++ (enc 1 ++ (encS u.data.toList ++ (enc ar ++ (lb d ++ l))))))))))))))))))))))) #[.int .i64 0, .string ⟨#[]⟩, .int .i64 0, .slice none 0 0, .slice none 0 0, .slice none 0 0, .slice none 0 0, .slice none 0 0, .slice none 0 0, .slice none 0 0, .slice none 0 0, .slice none 0 0]) := by
    refine ⟨⟨off, c, ((h.alloc _).alloc _).drew⟩, ?_, ?_, ((FStep.alloc p w _).trans (FStep.alloc p _ _)).trans (FStep.drew p _), hpl, hgl, by simp⟩
    · exact cell_alloc _ (by rw [cell_at (heap_alloc_new w _) 0]; rfl)
    · have e1 : (w.alloc (.cells #[.pointer (some ⟨p, 0, none⟩)] 64)).heap.size = w.heap.size + 1 := by simp
      rw [← e1]
      exact heap_alloc_new _ _
  have HR0 := Lib.hid ((h.alloc (.cells #[.pointer (some ⟨p, 0, none⟩)] 64)).alloc (.cells #[.int .i64 0, .string ⟨#[]⟩, .int .i64 0, .slice none 0 0, .slice none 0 0, .slice none 0 0, .slice none 0 0, .slice none 0 0, .slice none 0 0, .slice none 0 0, .slice none 0 0, .slice none 0 0] 44)).drew
  have hBq : w.heap.size + 1 ≠ w.heap.size := by omega
  have hsz0 := HM0.out.sz
  clear h eb hsz0
  have hmf : ∀ (fn : Fn) (first cap : Array Value) (w : World), (Instr.makeFunc fn first cap).run Tryz.prog w = .ok (.func fn first cap) w := fun _ _ _ _ => rfl
  go_enter Tryz.func19, Tryz.ntmps19
  go_wp2_with fail
  go_region_held3 (fun w' => w'.cell? ⟨w.heap.size, 0, none⟩ = some (.pointer (some ⟨p, 0, none⟩))) (first | (with_reducible exact HM0.out.q) | (with_reducible exact HM1.out.q) | (with_reducible exact HM2.out.q) | ((repeat (with_reducible refine keep_set hBq ?_)); with_reducible exact HM2.out.q))
    (first
      | (go_at_call 49; refine (rmodule_full _ p full _ g off c kind name rel hk hn hrel s hs r hr since hsi b1 b2 t ht HR0.out).mono ?_; rintro e w1 ⟨bi, ci, bs, cs, rfl, hbi, hbs, hbi1, hbs1, hbi2, hbs2, ⟨o1, c1, hR⟩, hF⟩; have Cbi := Lib.hid hbi; have Cbs := Lib.hid hbs; have Sbi : Hid (w.heap.size + 1 < bi) := Lib.hid (by have := HM0.out.sz; omega); have Sbs : Hid (w.heap.size + 1 < bs) := Lib.hid (by have := HM0.out.sz; omega); have Zbi := Lib.hid hbi2; have Zbs := Lib.hid hbs2; clear hbi hbs hbi1 hbs1 hbi2 hbs2; have HM1 := Lib.hid (HM0.out.call ⟨_, _, hR⟩ hF); have HR1 := Lib.hid hR; clear hR hF HR0; have hk1 := HM1.out.cell; have hm1 := HM1.out.froz; have hsz1 := HM1.out.sz)
      | (go_at_call 50; refine (read50_nil _ p full _ g o1 c1 HR1.out _ _ _).mono ?_; rintro e w2 ⟨rfl, ⟨o2, c2, hR⟩, hF⟩; have Cbi := Lib.hid (fun j x hx => (hF.cell (k := bi) Zbi.out (by have := Sbi.out; omega) j).trans (Cbi.out j x hx)); have Zbi := Lib.hid (Nat.lt_of_lt_of_le Zbi.out hF.size); have Cbs := Lib.hid (fun j x hx => (hF.cell (k := bs) Zbs.out (by have := Sbs.out; omega) j).trans (Cbs.out j x hx)); have Zbs := Lib.hid (Nat.lt_of_lt_of_le Zbs.out hF.size); have HM2 := Lib.hid (HM1.out.call ⟨_, _, hR⟩ hF); have HR2 := Lib.hid hR; clear hR hF HR1 hk1 hm1 hsz1; have hk2 := HM2.out.cell; have hm2 := HM2.out.froz; have hsz2 := HM2.out.sz))
  all_goals
    go_wp2_with fail
    have Cbi := Lib.hid (fun j x hx => (keep_at (o := 9) (v := .slice none 0 0) (show w.heap.size + 1 ≠ bi by have := Sbi.out; omega) (keep_at (o := 8) (v := .slice none 0 0) (show w.heap.size + 1 ≠ bi by have := Sbi.out; omega) (keep_at (o := 7) (v := .slice none 0 0) (show w.heap.size + 1 ≠ bi by have := Sbi.out; omega) (keep_at (o := 6) (v := .slice none 0 0) (show w.heap.size + 1 ≠ bi by have := Sbi.out; omega) (keep_at (o := 5) (v := .slice none 0 0) (show w.heap.size + 1 ≠ bi by have := Sbi.out; omega) (keep_at (o := 4) (v := .slice (some ⟨bs, 0, none⟩) 1 cs) (show w.heap.size + 1 ≠ bi by have := Sbi.out; omega) (keep_at (o := 3) (v := .slice (some ⟨bi, 0, none⟩) 1 ci) (show w.heap.size + 1 ≠ bi by have := Sbi.out; omega) (keep_at (o := 2) (v := .int .i64 rel) (show w.heap.size + 1 ≠ bi by have := Sbi.out; omega) (keep_at (o := 1) (v := .string name) (show w.heap.size + 1 ≠ bi by have := Sbi.out; omega) (keep_at (o := 0) (v := .int .i64 kind) (show w.heap.size + 1 ≠ bi by have := Sbi.out; omega) (Cbi.out j x hx))))))))))))
    have Zbi := Lib.hid (show bi < ((((((((((w2.setCell ⟨w.heap.size + 1, 0, none⟩ (.int .i64 kind)).setCell ⟨w.heap.size + 1, 1, none⟩ (.string name)).setCell ⟨w.heap.size + 1, 2, none⟩ (.int .i64 rel)).setCell ⟨w.heap.size + 1, 3, none⟩ (.slice (some ⟨bi, 0, none⟩) 1 ci)).setCell ⟨w.heap.size + 1, 4, none⟩ (.slice (some ⟨bs, 0, none⟩) 1 cs)).setCell ⟨w.heap.size + 1, 5, none⟩ (.slice none 0 0)).setCell ⟨w.heap.size + 1, 6, none⟩ (.slice none 0 0)).setCell ⟨w.heap.size + 1, 7, none⟩ (.slice none 0 0)).setCell ⟨w.heap.size + 1, 8, none⟩ (.slice none 0 0)).setCell ⟨w.heap.size + 1, 9, none⟩ (.slice none 0 0)).heap.size by have := Zbi.out; simpa [World.setCell] using this)
    have Cbs := Lib.hid (fun j x hx => (keep_at (o := 9) (v := .slice none 0 0) (show w.heap.size + 1 ≠ bs by have := Sbs.out; omega) (keep_at (o := 8) (v := .slice none 0 0) (show w.heap.size + 1 ≠ bs by have := Sbs.out; omega) (keep_at (o := 7) (v := .slice none 0 0) (show w.heap.size + 1 ≠ bs by have := Sbs.out; omega) (keep_at (o := 6) (v := .slice none 0 0) (show w.heap.size + 1 ≠ bs by have := Sbs.out; omega) (keep_at (o := 5) (v := .slice none 0 0) (show w.heap.size + 1 ≠ bs by have := Sbs.out; omega) (keep_at (o := 4) (v := .slice (some ⟨bs, 0, none⟩) 1 cs) (show w.heap.size + 1 ≠ bs by have := Sbs.out; omega) (keep_at (o := 3) (v := .slice (some ⟨bi, 0, none⟩) 1 ci) (show w.heap.size + 1 ≠ bs by have := Sbs.out; omega) (keep_at (o := 2) (v := .int .i64 rel) (show w.heap.size + 1 ≠ bs by have := Sbs.out; omega) (keep_at (o := 1) (v := .string name) (show w.heap.size + 1 ≠ bs by have := Sbs.out; omega) (keep_at (o := 0) (v := .int .i64 kind) (show w.heap.size + 1 ≠ bs by have := Sbs.out; omega) (Cbs.out j x hx))))))))))))
    have Zbs := Lib.hid (show bs < ((((((((((w2.setCell ⟨w.heap.size + 1, 0, none⟩ (.int .i64 kind)).setCell ⟨w.heap.size + 1, 1, none⟩ (.string name)).setCell ⟨w.heap.size + 1, 2, none⟩ (.int .i64 rel)).setCell ⟨w.heap.size + 1, 3, none⟩ (.slice (some ⟨bi, 0, none⟩) 1 ci)).setCell ⟨w.heap.size + 1, 4, none⟩ (.slice (some ⟨bs, 0, none⟩) 1 cs)).setCell ⟨w.heap.size + 1, 5, none⟩ (.slice none 0 0)).setCell ⟨w.heap.size + 1, 6, none⟩ (.slice none 0 0)).setCell ⟨w.heap.size + 1, 7, none⟩ (.slice none 0 0)).setCell ⟨w.heap.size + 1, 8, none⟩ (.slice none 0 0)).setCell ⟨w.heap.size + 1, 9, none⟩ (.slice none 0 0)).heap.size by have := Zbs.out; simpa [World.setCell] using this)
    have HX0 := Lib.hid (show Md 44 w ((((((((((w2.setCell ⟨w.heap.size + 1, 0, none⟩ (.int .i64 kind)).setCell ⟨w.heap.size + 1, 1, none⟩ (.string name)).setCell ⟨w.heap.size + 1, 2, none⟩ (.int .i64 rel)).setCell ⟨w.heap.size + 1, 3, none⟩ (.slice (some ⟨bi, 0, none⟩) 1 ci)).setCell ⟨w.heap.size + 1, 4, none⟩ (.slice (some ⟨bs, 0, none⟩) 1 cs)).setCell ⟨w.heap.size + 1, 5, none⟩ (.slice none 0 0)).setCell ⟨w.heap.size + 1, 6, none⟩ (.slice none 0 0)).setCell ⟨w.heap.size + 1, 7, none⟩ (.slice none 0 0)).setCell ⟨w.heap.size + 1, 8, none⟩ (.slice none 0 0)).setCell ⟨w.heap.size + 1, 9, none⟩ (.slice none 0 0)) p full g _ #[.int .i64 kind, .string name, .int .i64 rel, .slice (some ⟨bi, 0, none⟩) 1 ci, .slice (some ⟨bs, 0, none⟩) 1 cs, .slice none 0 0, .slice none 0 0, .slice none 0 0, .slice none 0 0, .slice none 0 0, .slice none 0 0, .slice none 0 0] from by simpa using ((((((((((HM2.out.store 0 (.int .i64 kind)).store 1 (.string name)).store 2 (.int .i64 rel)).store 3 (.slice (some ⟨bi, 0, none⟩) 1 ci)).store 4 (.slice (some ⟨bs, 0, none⟩) 1 cs)).store 5 (.slice none 0 0)).store 6 (.slice none 0 0)).store 7 (.slice none 0 0)).store 8 (.slice none 0 0)).store 9 (.slice none 0 0)))
    generalize ((((((((((w2.setCell ⟨w.heap.size + 1, 0, none⟩ (.int .i64 kind)).setCell ⟨w.heap.size + 1, 1, none⟩ (.string name)).setCell ⟨w.heap.size + 1, 2, none⟩ (.int .i64 rel)).setCell ⟨w.heap.size + 1, 3, none⟩ (.slice (some ⟨bi, 0, none⟩) 1 ci)).setCell ⟨w.heap.size + 1, 4, none⟩ (.slice (some ⟨bs, 0, none⟩) 1 cs)).setCell ⟨w.heap.size + 1, 5, none⟩ (.slice none 0 0)).setCell ⟨w.heap.size + 1, 6, none⟩ (.slice none 0 0)).setCell ⟨w.heap.size + 1, 7, none⟩ (.slice none 0 0)).setCell ⟨w.heap.size + 1, 8, none⟩ (.slice none 0 0)).setCell ⟨w.heap.size + 1, 9, none⟩ (.slice none 0 0)) = X0 at *
    obtain ⟨p0, d0, HRX0⟩ := HX0.out.rr
    clear hk2 hm2 hsz2
    refine (read52_nil _ p full _ g p0 d0 HRX0 _ _ _).mono ?_
    rintro e y0 ⟨rfl, hR, hF⟩
    have Cbi := Lib.hid (fun j x hx => (hF.cell (k := bi) Zbi.out (by have := Sbi.out; omega) j).trans (Cbi.out j x hx))
    have Zbi := Lib.hid (Nat.lt_of_lt_of_le Zbi.out hF.size)
    have Cbs := Lib.hid (fun j x hx => (hF.cell (k := bs) Zbs.out (by have := Sbs.out; omega) j).trans (Cbs.out j x hx))
    have Zbs := Lib.hid (Nat.lt_of_lt_of_le Zbs.out hF.size)
    have HY0 := Lib.hid (HX0.out.call hR hF)
    clear hR hF
    have hc0 := HY0.out.cell 10
    simp only [List.getElem?_toArray, List.getElem?_cons_zero, List.getElem?_cons_succ] at hc0
    have hm0 := HY0.out.froz 10
    have hq0 := HY0.out.q
    have hs0 := HY0.out.sz
    go_wp2_with fail
    have Cbi := Lib.hid (fun j x hx => (keep_at (o := 10) (v := .slice none 0 0) (show w.heap.size + 1 ≠ bi by have := Sbi.out; omega) (Cbi.out j x hx)))
    have Zbi := Lib.hid (show bi < (y0.setCell ⟨w.heap.size + 1, 10, none⟩ (.slice none 0 0)).heap.size by have := Zbi.out; simpa [World.setCell] using this)
    have Cbs := Lib.hid (fun j x hx => (keep_at (o := 10) (v := .slice none 0 0) (show w.heap.size + 1 ≠ bs by have := Sbs.out; omega) (Cbs.out j x hx)))
    have Zbs := Lib.hid (show bs < (y0.setCell ⟨w.heap.size + 1, 10, none⟩ (.slice none 0 0)).heap.size by have := Zbs.out; simpa [World.setCell] using this)
    have HX1 := Lib.hid (show Md 44 w (y0.setCell ⟨w.heap.size + 1, 10, none⟩ (.slice none 0 0)) p full g _ #[.int .i64 kind, .string name, .int .i64 rel, .slice (some ⟨bi, 0, none⟩) 1 ci, .slice (some ⟨bs, 0, none⟩) 1 cs, .slice none 0 0, .slice none 0 0, .slice none 0 0, .slice none 0 0, .slice none 0 0, .slice none 0 0, .slice none 0 0] from by simpa using HY0.out.store 10 (.slice none 0 0))
    clear hc0 hm0 hq0 hs0
    generalize y0.setCell ⟨w.heap.size + 1, 10, none⟩ (.slice none 0 0) = X1 at *
    obtain ⟨p1, d1, HRX1⟩ := HX1.out.rr
    refine (read56_one _ p full l g p1 d1 u hu ar har d hd HRX1 (w.heap.size) HX1.out.q (by omega)).mono ?_
    rintro e y1 ⟨ba, ca, rfl, hba, hba1, hba2, hR, hF⟩
    have Cba := Lib.hid hba
    have Sba : Hid (w.heap.size + 1 < ba) := Lib.hid (by have := HX1.out.sz; omega)
    have Zba := Lib.hid hba2
    clear hba hba1 hba2
    have Cbi := Lib.hid (fun j x hx => (hF.cell (k := bi) Zbi.out (by have := Sbi.out; omega) j).trans (Cbi.out j x hx))
    have Zbi := Lib.hid (Nat.lt_of_lt_of_le Zbi.out hF.size)
    have Cbs := Lib.hid (fun j x hx => (hF.cell (k := bs) Zbs.out (by have := Sbs.out; omega) j).trans (Cbs.out j x hx))
    have Zbs := Lib.hid (Nat.lt_of_lt_of_le Zbs.out hF.size)
    have HY1 := Lib.hid (HX1.out.call hR hF)
    clear hR hF
    have hz0 := HY1.out.cell 0
    have hz1 := HY1.out.cell 1
    have hz2 := HY1.out.cell 2
    have hz3 := HY1.out.cell 3
    have hz4 := HY1.out.cell 4
    have hz5 := HY1.out.cell 5
    have hz6 := HY1.out.cell 6
    have hz7 := HY1.out.cell 7
    have hz8 := HY1.out.cell 8
    have hz9 := HY1.out.cell 9
    have hz10 := HY1.out.cell 10
    have hz11 := HY1.out.cell 11
    simp only [List.getElem?_toArray, List.getElem?_cons_zero, List.getElem?_cons_succ] at hz0 hz1 hz2 hz3 hz4 hz5 hz6 hz7 hz8 hz9 hz10 hz11
    have hm1 := HY1.out.froz
    have hq1 := HY1.out.q
    have hs1 := HY1.out.sz
    go_wp2_with fail
    have HE := Lib.hid (((((((((((((HY1.out.store 11 (.slice (some ⟨ba, 0, none⟩) 1 ca)).store 0 (.int .i64 kind)).store 1 (.string name)).store 2 (.int .i64 rel)).store 3 (.slice (some ⟨bi, 0, none⟩) 1 ci)).store 4 (.slice (some ⟨bs, 0, none⟩) 1 cs)).store 5 (.slice none 0 0)).store 6 (.slice none 0 0)).store 7 (.slice none 0 0)).store 8 (.slice none 0 0)).store 9 (.slice none 0 0)).store 10 (.slice none 0 0)).store 11 (.slice (some ⟨ba, 0, none⟩) 1 ca))
    have hB := HE.out.b
    simp at hB
    have f0 := cell_at hB 0
    have f1 := cell_at hB 1
    have f2 := cell_at hB 2
    have f3 := cell_at hB 3
    have f4 := cell_at hB 4
    have f5 := cell_at hB 5
    have f6 := cell_at hB 6
    have f7 := cell_at hB 7
    have f8 := cell_at hB 8
    have f9 := cell_at hB 9
    have f10 := cell_at hB 10
    have f11 := cell_at hB 11
    simp only [List.getElem?_toArray, List.getElem?_cons_zero, List.getElem?_cons_succ] at f0 f1 f2 f3 f4 f5 f6 f7 f8 f9 f10 f11
    refine bodyPost_ret (v := .agg #[.int .i64 kind, .string name, .int .i64 rel, .slice (some ⟨bi, 0, none⟩) 1 ci, .slice (some ⟨bs, 0, none⟩) 1 cs, .slice none 0 0, .slice none 0 0, .slice none 0 0, .slice none 0 0, .slice none 0 0, .slice none 0 0, .slice (some ⟨ba, 0, none⟩) 1 ca]) (by simp [results, Tryz.results19, go_sem, f0, f1, f2, f3, f4, f5, f6, f7, f8, f9, f10, f11]) rfl ?_
    exact ⟨bi, ci, bs, cs, ba, ca, rfl, fun j x hx => (keep_at (show w.heap.size + 1 ≠ bi by have := Sbi.out; omega) (keep_at (show w.heap.size + 1 ≠ bi by have := Sbi.out; omega) (keep_at (show w.heap.size + 1 ≠ bi by have := Sbi.out; omega) (keep_at (show w.heap.size + 1 ≠ bi by have := Sbi.out; omega) (keep_at (show w.heap.size + 1 ≠ bi by have := Sbi.out; omega) (keep_at (show w.heap.size + 1 ≠ bi by have := Sbi.out; omega) (keep_at (show w.heap.size + 1 ≠ bi by have := Sbi.out; omega) (keep_at (show w.heap.size + 1 ≠ bi by have := Sbi.out; omega) (keep_at (show w.heap.size + 1 ≠ bi by have := Sbi.out; omega) (keep_at (show w.heap.size + 1 ≠ bi by have := Sbi.out; omega) (keep_at (show w.heap.size + 1 ≠ bi by have := Sbi.out; omega) (keep_at (show w.heap.size + 1 ≠ bi by have := Sbi.out; omega) (keep_at (show w.heap.size + 1 ≠ bi by have := Sbi.out; omega) (Cbi.out j x hx)))))))))))))), fun j x hx => (keep_at (show w.heap.size + 1 ≠ bs by have := Sbs.out; omega) (keep_at (show w.heap.size + 1 ≠ bs by have := Sbs.out; omega) (keep_at (show w.heap.size + 1 ≠ bs by have := Sbs.out; omega) (keep_at (show w.heap.size + 1 ≠ bs by have := Sbs.out; omega) (keep_at (show w.heap.size + 1 ≠ bs by have := Sbs.out; omega) (keep_at (show w.heap.size + 1 ≠ bs by have := Sbs.out; omega) (keep_at (show w.heap.size + 1 ≠ bs by have := Sbs.out; omega) (keep_at (show w.heap.size + 1 ≠ bs by have := Sbs.out; omega) (keep_at (show w.heap.size + 1 ≠ bs by have := Sbs.out; omega) (keep_at (show w.heap.size + 1 ≠ bs by have := Sbs.out; omega) (keep_at (show w.heap.size + 1 ≠ bs by have := Sbs.out; omega) (keep_at (show w.heap.size + 1 ≠ bs by have := Sbs.out; omega) (keep_at (show w.heap.size + 1 ≠ bs by have := Sbs.out; omega) (Cbs.out j x hx)))))))))))))), fun j x hx => (keep_at (show w.heap.size + 1 ≠ ba by have := Sba.out; omega) (keep_at (show w.heap.size + 1 ≠ ba by have := Sba.out; omega) (keep_at (show w.heap.size + 1 ≠ ba by have := Sba.out; omega) (keep_at (show w.heap.size + 1 ≠ ba by have := Sba.out; omega) (keep_at (show w.heap.size + 1 ≠ ba by have := Sba.out; omega) (keep_at (show w.heap.size + 1 ≠ ba by have := Sba.out; omega) (keep_at (show w.heap.size + 1 ≠ ba by have := Sba.out; omega) (keep_at (show w.heap.size + 1 ≠ ba by have := Sba.out; omega) (keep_at (show w.heap.size + 1 ≠ ba by have := Sba.out; omega) (keep_at (show w.heap.size + 1 ≠ ba by have := Sba.out; omega) (keep_at (show w.heap.size + 1 ≠ ba by have := Sba.out; omega) (keep_at (show w.heap.size + 1 ≠ ba by have := Sba.out; omega) (keep_at (show w.heap.size + 1 ≠ ba by have := Sba.out; omega) (Cba.out j x hx)))))))))))))), HE.out.rr, HE.out.f⟩

end Go.Proofs.YtgliaafiompilabGreatDoor

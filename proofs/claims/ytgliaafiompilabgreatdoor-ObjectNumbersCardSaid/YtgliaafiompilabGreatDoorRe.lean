/- The walks of the reader's module and object. -/
import Derived.Test.YtgliaafiompilabGreatDoorRd
namespace Go.Proofs.YtgliaafiompilabGreatDoor
open Go.RowKit Go.Lib

/-- In the middle of a reader's function that began in w: its own two blocks (the reader's pointer, and what it fills), and what is left to be read. -/
structure Md (T : TypeId) (w W : World) (p : Nat) (full : Bool) (g : Nat) (l : List UInt8) (cs : Array Value) : Prop where
  rr : ∃ off c, Rr W p full l g off c
  q : W.cell? ⟨w.heap.size, 0, none⟩ = some (.pointer (some ⟨p, 0, none⟩))
  b : W.heap[w.heap.size + 1]? = some (.cells cs T (0, 0))
  f : FStep p w W
  hp : p < w.heap.size
  hg : g < w.heap.size
  sz : w.heap.size + 1 < W.heap.size

theorem Md.call {T : TypeId} {w X w' : World} {p : Nat} {full : Bool} {g : Nat} {l l' : List UInt8} {cs : Array Value} (h : Md T w X p full g l cs) (hr : ∃ off c, Rr w' p full l' g off c) (hf : FStep p X w') : Md T w w' p full g l' cs :=
  ⟨hr, (hf.cell (by have := h.sz; omega) (by have := h.hp; omega) 0).trans h.q, (hf.block _ h.sz (by have := h.hp; omega)).trans h.b, h.f.trans hf, h.hp, h.hg, Nat.lt_of_lt_of_le h.sz hf.size⟩

theorem Md.store {T : TypeId} {w X : World} {p : Nat} {full : Bool} {g : Nat} {l : List UInt8} {cs : Array Value} (h : Md T w X p full g l cs) (i : Nat) (v : Value) : Md T w (X.setCell ⟨w.heap.size + 1, i, none⟩ v) p full g l (cs.setIfInBounds i v) := by
  obtain ⟨⟨o, c, r⟩, q, b, f, hp, hg, sz⟩ := h
  refine ⟨⟨o, c, r.setCell _ _ (by dsimp only; omega) (by dsimp only; omega)⟩, ?_, heap_set b i v, f.setNew (by dsimp only; omega) v, hp, hg, by simpa [World.setCell] using sz⟩
  rw [World.cell?_of_block (w := X) (a := ⟨w.heap.size, 0, none⟩) (Below.heap_setCell _ _ _ _ (by dsimp only; omega))]
  exact q

theorem Md.cell {T : TypeId} {w X : World} {p : Nat} {full : Bool} {g : Nat} {l : List UInt8} {cs : Array Value} (h : Md T w X p full g l cs) (i : Nat) : X.cell? ⟨w.heap.size + 1, i, none⟩ = cs[i]? := cell_at h.b i
theorem Md.froz {T : TypeId} {w X : World} {p : Nat} {full : Bool} {g : Nat} {l : List UInt8} {cs : Array Value} (h : Md T w X p full g l cs) : ∀ i, X.frozen? ⟨w.heap.size + 1, i, none⟩ = false := fun i => by simp [World.frozen?, h.b]

theorem keep_at {x : World} {B b o j : Nat} {u v : Value} (hb : B ≠ b) (h : x.cell? ⟨b, j, none⟩ = some u) : (x.setCell ⟨B, o, none⟩ v).cell? ⟨b, j, none⟩ = some u := by
  rw [World.cell?_of_block (w := x) (a := ⟨b, j, none⟩) (Below.heap_setCell _ _ _ _ (Ne.symm hb))]; exact h

/-- What reading a module with one import and one struct comes to. -/
def RMFull (w : World) (p : Nat) (full : Bool) (kind : Int) (name : ByteArray) (rel : Int) (s : ByteArray) (r : Int) (since : Int) (b1 b2 : Bool) (t : ByteArray) (l : List UInt8) (g : Nat) (e : Ending) (w' : World) : Prop :=
  ∃ bi ci bs cs, e = .returned (.agg #[.int .i64 kind, .string name, .int .i64 rel, .slice (some ⟨bi, 0, none⟩) 1 ci, .slice (some ⟨bs, 0, none⟩) 1 cs, .slice none 0 0, .slice none 0 0, .slice none 0 0, .slice none 0 0]) ∧
    (∀ j u, [Value.string s, .int .i64 r][j]? = some u → w'.cell? ⟨bi, j, none⟩ = some u) ∧ (∀ j u, [Value.int .i64 since, .bool b1, .bool b2, .string t, .slice none 0 0, .slice none 0 0][j]? = some u → w'.cell? ⟨bs, j, none⟩ = some u) ∧
    w.heap.size ≤ bi ∧ w.heap.size ≤ bs ∧ bi < w'.heap.size ∧ bs < w'.heap.size ∧ (∃ off c, Rr w' p full l g off c) ∧ FStep p w w'

set_option maxRecDepth 100000 in
set_option maxHeartbeats 4000000 in
theorem rmodule_bare (w : World) (p : Nat) (full : Bool) (l : List UInt8) (g off c : Nat) (kind : Int) (name : ByteArray) (rel : Int) (hk : I64 kind) (hn : I64 (name.size : Int)) (hrel : I64 rel) (h : Rr w p full (enc kind ++ (encS name.data.toList ++ (enc rel ++ (enc 0 ++ (enc 0 ++ (enc 0 ++ (enc 0 ++ (enc 0 ++ (enc 0 ++ (l)))))))))) g off c) :
    Calls Tryz.prog 49 #[.pointer (some ⟨p, 0, none⟩)] w (NPost w p full (.agg #[.int .i64 kind, .string name, .int .i64 rel, .slice none 0 0, .slice none 0 0, .slice none 0 0, .slice none 0 0, .slice none 0 0, .slice none 0 0]) l g) := by
  have hpl := h.lt
  have hgl : g < w.heap.size := h.2.2.2.2.1
  have HM0 : Hid (Md 37 w ((w.alloc (.cells #[.pointer (some ⟨p, 0, none⟩)] 64)).alloc (.cells #[.int .i64 0, .string ⟨#[]⟩, .int .i64 0, .slice none 0 0, .slice none 0 0, .slice none 0 0, .slice none 0 0, .slice none 0 0, .slice none 0 0] 37)).drew p full g (enc kind ++ (encS name.data.toList ++ (enc rel ++ (enc 0 ++ (enc 0 ++ (enc 0 ++ (enc 0 ++ (enc 0 ++ (enc 0 ++ (l)))))))))) #[.int .i64 0, .string ⟨#[]⟩, .int .i64 0, .slice none 0 0, .slice none 0 0, .slice none 0 0, .slice none 0 0, .slice none 0 0, .slice none 0 0]) := by
    refine ⟨⟨off, c, ((h.alloc _).alloc _).drew⟩, ?_, ?_, ((FStep.alloc p w _).trans (FStep.alloc p _ _)).trans (FStep.drew p _), hpl, hgl, by simp⟩
    · exact cell_alloc _ (by rw [cell_at (heap_alloc_new w _) 0]; rfl)
    · have e1 : (w.alloc (.cells #[.pointer (some ⟨p, 0, none⟩)] 64)).heap.size = w.heap.size + 1 := by simp
      rw [← e1]
      exact heap_alloc_new _ _
  have HR0 := Lib.hid ((h.alloc (.cells #[.pointer (some ⟨p, 0, none⟩)] 64)).alloc (.cells #[.int .i64 0, .string ⟨#[]⟩, .int .i64 0, .slice none 0 0, .slice none 0 0, .slice none 0 0, .slice none 0 0, .slice none 0 0, .slice none 0 0] 37)).drew
  have hBq : w.heap.size + 1 ≠ w.heap.size := by omega
  clear h
  have hmf : ∀ (fn : Fn) (first cap : Array Value) (w : World), (Instr.makeFunc fn first cap).run Tryz.prog w = .ok (.func fn first cap) w := fun _ _ _ _ => rfl
  go_enter Tryz.func49, Tryz.ntmps49
  go_wp2_with fail
  go_region_held3 (fun w' => w'.cell? ⟨w.heap.size, 0, none⟩ = some (.pointer (some ⟨p, 0, none⟩))) (first | (with_reducible exact HM0.out.q) | (with_reducible exact HM1.out.q) | (with_reducible exact HM2.out.q) | (with_reducible exact HM3.out.q) | ((repeat (with_reducible refine keep_set hBq ?_)); with_reducible exact HM3.out.q))
    (first
      | (go_at_call 59; refine (rint_any _ p full kind hk _ g off c HR0.out).mono ?_; rintro e w1 ⟨rfl, ⟨o1, c1, hR⟩, hF⟩; have HM1 := Lib.hid (HM0.out.call ⟨_, _, hR⟩ hF); have HR1 := Lib.hid hR; clear hR hF HR0; have hk1 := HM1.out.cell; have hm1 := HM1.out.froz; have hsz1 := HM1.out.sz)
      | (go_at_call 58; refine (rtext_any _ p full name hn _ g o1 c1 HR1.out).mono ?_; rintro e w2 ⟨rfl, ⟨o2, c2, hR⟩, hF⟩; have HM2 := Lib.hid (HM1.out.call ⟨_, _, hR⟩ hF); have HR2 := Lib.hid hR; clear hR hF HR1 hk1 hm1 hsz1; have hk2 := HM2.out.cell; have hm2 := HM2.out.froz; have hsz2 := HM2.out.sz)
      | (go_at_call 59; refine (rint_any _ p full rel hrel _ g o2 c2 HR2.out).mono ?_; rintro e w3 ⟨rfl, ⟨o3, c3, hR⟩, hF⟩; have HM3 := Lib.hid (HM2.out.call ⟨_, _, hR⟩ hF); have HR3 := Lib.hid hR; clear hR hF HR2 hk2 hm2 hsz2; have hk3 := HM3.out.cell; have hm3 := HM3.out.froz; have hsz3 := HM3.out.sz))
  go_wp2_with fail
  have HX0 := Lib.hid (show Md 37 w (((w3.setCell ⟨w.heap.size + 1, 0, none⟩ (.int .i64 kind)).setCell ⟨w.heap.size + 1, 1, none⟩ (.string name)).setCell ⟨w.heap.size + 1, 2, none⟩ (.int .i64 rel)) p full g _ #[.int .i64 kind, .string name, .int .i64 rel, .slice none 0 0, .slice none 0 0, .slice none 0 0, .slice none 0 0, .slice none 0 0, .slice none 0 0] from by simpa using ((HM3.out.store 0 (.int .i64 kind)).store 1 (.string name)).store 2 (.int .i64 rel))
  generalize ((w3.setCell ⟨w.heap.size + 1, 0, none⟩ (.int .i64 kind)).setCell ⟨w.heap.size + 1, 1, none⟩ (.string name)).setCell ⟨w.heap.size + 1, 2, none⟩ (.int .i64 rel) = X0 at *
  obtain ⟨p0, d0, HRX0⟩ := HX0.out.rr
  clear hk3 hm3 hsz3
  refine (read123_nil _ p full _ g p0 d0 HRX0 _ _ _).mono ?_
  rintro e y0 ⟨rfl, hR, hF⟩
  have HY0 := Lib.hid (HX0.out.call hR hF)
  clear hR hF
  have hc0 := HY0.out.cell 3
  simp only [List.getElem?_toArray, List.getElem?_cons_zero, List.getElem?_cons_succ] at hc0
  have hm0 := HY0.out.froz 3
  have hq0 := HY0.out.q
  have hs0 := HY0.out.sz
  go_wp2_with fail
  clear hc0 hm0 hq0 hs0
  have HX1 := Lib.hid (show Md 37 w (y0.setCell ⟨w.heap.size + 1, 3, none⟩ (.slice none 0 0)) p full g _ #[.int .i64 kind, .string name, .int .i64 rel, .slice none 0 0, .slice none 0 0, .slice none 0 0, .slice none 0 0, .slice none 0 0, .slice none 0 0] from by simpa using HY0.out.store 3 (.slice none 0 0))
  generalize y0.setCell ⟨w.heap.size + 1, 3, none⟩ (.slice none 0 0) = X1 at *
  obtain ⟨p1, d1, HRX1⟩ := HX1.out.rr
  refine (read125_nil _ p full _ g p1 d1 HRX1 _ _ _).mono ?_
  rintro e y1 ⟨rfl, hR, hF⟩
  have HY1 := Lib.hid (HX1.out.call hR hF)
  clear hR hF
  have hc1 := HY1.out.cell 4
  simp only [List.getElem?_toArray, List.getElem?_cons_zero, List.getElem?_cons_succ] at hc1
  have hm1 := HY1.out.froz 4
  have hq1 := HY1.out.q
  have hs1 := HY1.out.sz
  go_wp2_with fail
  clear hc1 hm1 hq1 hs1
  have HX2 := Lib.hid (show Md 37 w (y1.setCell ⟨w.heap.size + 1, 4, none⟩ (.slice none 0 0)) p full g _ #[.int .i64 kind, .string name, .int .i64 rel, .slice none 0 0, .slice none 0 0, .slice none 0 0, .slice none 0 0, .slice none 0 0, .slice none 0 0] from by simpa using HY1.out.store 4 (.slice none 0 0))
  generalize y1.setCell ⟨w.heap.size + 1, 4, none⟩ (.slice none 0 0) = X2 at *
  obtain ⟨p2, d2, HRX2⟩ := HX2.out.rr
  refine (read131_nil _ p full _ g p2 d2 HRX2 _ _ _).mono ?_
  rintro e y2 ⟨rfl, hR, hF⟩
  have HY2 := Lib.hid (HX2.out.call hR hF)
  clear hR hF
  have hc2 := HY2.out.cell 5
  simp only [List.getElem?_toArray, List.getElem?_cons_zero, List.getElem?_cons_succ] at hc2
  have hm2 := HY2.out.froz 5
  have hq2 := HY2.out.q
  have hs2 := HY2.out.sz
  go_wp2_with fail
  clear hc2 hm2 hq2 hs2
  have HX3 := Lib.hid (show Md 37 w (y2.setCell ⟨w.heap.size + 1, 5, none⟩ (.slice none 0 0)) p full g _ #[.int .i64 kind, .string name, .int .i64 rel, .slice none 0 0, .slice none 0 0, .slice none 0 0, .slice none 0 0, .slice none 0 0, .slice none 0 0] from by simpa using HY2.out.store 5 (.slice none 0 0))
  generalize y2.setCell ⟨w.heap.size + 1, 5, none⟩ (.slice none 0 0) = X3 at *
  obtain ⟨p3, d3, HRX3⟩ := HX3.out.rr
  refine (read136_nil _ p full _ g p3 d3 HRX3 _ _ _).mono ?_
  rintro e y3 ⟨rfl, hR, hF⟩
  have HY3 := Lib.hid (HX3.out.call hR hF)
  clear hR hF
  have hc3 := HY3.out.cell 6
  simp only [List.getElem?_toArray, List.getElem?_cons_zero, List.getElem?_cons_succ] at hc3
  have hm3 := HY3.out.froz 6
  have hq3 := HY3.out.q
  have hs3 := HY3.out.sz
  go_wp2_with fail
  clear hc3 hm3 hq3 hs3
  have HX4 := Lib.hid (show Md 37 w (y3.setCell ⟨w.heap.size + 1, 6, none⟩ (.slice none 0 0)) p full g _ #[.int .i64 kind, .string name, .int .i64 rel, .slice none 0 0, .slice none 0 0, .slice none 0 0, .slice none 0 0, .slice none 0 0, .slice none 0 0] from by simpa using HY3.out.store 6 (.slice none 0 0))
  generalize y3.setCell ⟨w.heap.size + 1, 6, none⟩ (.slice none 0 0) = X4 at *
  obtain ⟨p4, d4, HRX4⟩ := HX4.out.rr
  refine (read140_nil _ p full _ g p4 d4 HRX4 _ _ _).mono ?_
  rintro e y4 ⟨rfl, hR, hF⟩
  have HY4 := Lib.hid (HX4.out.call hR hF)
  clear hR hF
  have hc4 := HY4.out.cell 7
  simp only [List.getElem?_toArray, List.getElem?_cons_zero, List.getElem?_cons_succ] at hc4
  have hm4 := HY4.out.froz 7
  have hq4 := HY4.out.q
  have hs4 := HY4.out.sz
  go_wp2_with fail
  clear hc4 hm4 hq4 hs4
  have HX5 := Lib.hid (show Md 37 w (y4.setCell ⟨w.heap.size + 1, 7, none⟩ (.slice none 0 0)) p full g _ #[.int .i64 kind, .string name, .int .i64 rel, .slice none 0 0, .slice none 0 0, .slice none 0 0, .slice none 0 0, .slice none 0 0, .slice none 0 0] from by simpa using HY4.out.store 7 (.slice none 0 0))
  generalize y4.setCell ⟨w.heap.size + 1, 7, none⟩ (.slice none 0 0) = X5 at *
  obtain ⟨p5, d5, HRX5⟩ := HX5.out.rr
  refine (read146_nil _ p full _ g p5 d5 HRX5 _ _ _).mono ?_
  rintro e y5 ⟨rfl, hR, hF⟩
  have HY5 := Lib.hid (HX5.out.call hR hF)
  clear hR hF
  have hc5 := HY5.out.cell 8
  simp only [List.getElem?_toArray, List.getElem?_cons_zero, List.getElem?_cons_succ] at hc5
  have hm5 := HY5.out.froz 8
  have hq5 := HY5.out.q
  have hs5 := HY5.out.sz
  have hz0 := HY5.out.cell 0
  have hz1 := HY5.out.cell 1
  have hz2 := HY5.out.cell 2
  have hz3 := HY5.out.cell 3
  have hz4 := HY5.out.cell 4
  have hz5 := HY5.out.cell 5
  have hz6 := HY5.out.cell 6
  have hz7 := HY5.out.cell 7
  simp only [List.getElem?_toArray, List.getElem?_cons_zero, List.getElem?_cons_succ] at hz0 hz1 hz2 hz3 hz4 hz5 hz6 hz7
  have hmz := HY5.out.froz
  clear hm5
  go_wp2_with fail
  have HE := Lib.hid ((((((((((HY5.out.store 8 (.slice none 0 0)).store 0 (.int .i64 kind)).store 1 (.string name)).store 2 (.int .i64 rel)).store 3 (.slice none 0 0)).store 4 (.slice none 0 0)).store 5 (.slice none 0 0)).store 6 (.slice none 0 0)).store 7 (.slice none 0 0)).store 8 (.slice none 0 0))
  have hB := HE.out.b
  simp at hB
  have f0 := cell_at hB 0
  have f1 := cell_at hB 1
  have f2 := cell_at hB 2
  have f3 := cell_at hB 3
  have f4 := cell_at hB 4
  have f5 := cell_at hB 5
  have f6 := cell_at hB 6
  have f7 := cell_at hB 7
  have f8 := cell_at hB 8
  simp only [List.getElem?_toArray, List.getElem?_cons_zero, List.getElem?_cons_succ] at f0 f1 f2 f3 f4 f5 f6 f7 f8
  refine bodyPost_ret (v := .agg #[.int .i64 kind, .string name, .int .i64 rel, .slice none 0 0, .slice none 0 0, .slice none 0 0, .slice none 0 0, .slice none 0 0, .slice none 0 0]) (by simp [results, Tryz.results49, go_sem, f0, f1, f2, f3, f4, f5, f6, f7, f8]) rfl ?_
  exact ⟨rfl, HE.out.rr, HE.out.f⟩

set_option maxRecDepth 100000 in
set_option maxHeartbeats 4000000 in
theorem rmodule_full (w : World) (p : Nat) (full : Bool) (l : List UInt8) (g off c : Nat) (kind : Int) (name : ByteArray) (rel : Int) (hk : I64 kind) (hn : I64 (name.size : Int)) (hrel : I64 rel) (s : ByteArray) (hs : I64 (s.size : Int)) (r : Int) (hr : I64 r) (since : Int) (hsi : I64 since) (b1 b2 : Bool) (t : ByteArray) (ht : I64 (t.size : Int)) (h : Rr w p full (enc kind ++ (encS name.data.toList ++ (enc rel ++ (enc 1 ++ (encS s.data.toList ++ (enc r ++ (enc 1 ++ (enc since ++ (encB b1 ++ (encB b2 ++ (encS t.data.toList ++ (enc 0 ++ (enc 0 ++ (enc 0 ++ (enc 0 ++ (enc 0 ++ (enc 0 ++ (l)))))))))))))))))) g off c) :
    Calls Tryz.prog 49 #[.pointer (some ⟨p, 0, none⟩)] w (RMFull w p full kind name rel s r since b1 b2 t l g) := by
  have hpl := h.lt
  have hgl : g < w.heap.size := h.2.2.2.2.1
  have HM0 : Hid (Md 37 w ((w.alloc (.cells #[.pointer (some ⟨p, 0, none⟩)] 64)).alloc (.cells #[.int .i64 0, .string ⟨#[]⟩, .int .i64 0, .slice none 0 0, .slice none 0 0, .slice none 0 0, .slice none 0 0, .slice none 0 0, .slice none 0 0] 37)).drew p full g (enc kind ++ (encS name.data.toList ++ (enc rel ++ (enc 1 ++ (encS s.data.toList ++ (enc r ++ (enc 1 ++ (enc since ++ (encB b1 ++ (encB b2 ++ (encS t.data.toList ++ (enc 0 ++ (enc 0 ++ (enc 0 ++ (enc 0 ++ (enc 0 ++ (enc 0 ++ (l)))))))))))))))))) #[.int .i64 0, .string ⟨#[]⟩, .int .i64 0, .slice none 0 0, .slice none 0 0, .slice none 0 0, .slice none 0 0, .slice none 0 0, .slice none 0 0]) := by
    refine ⟨⟨off, c, ((h.alloc _).alloc _).drew⟩, ?_, ?_, ((FStep.alloc p w _).trans (FStep.alloc p _ _)).trans (FStep.drew p _), hpl, hgl, by simp⟩
    · exact cell_alloc _ (by rw [cell_at (heap_alloc_new w _) 0]; rfl)
    · have e1 : (w.alloc (.cells #[.pointer (some ⟨p, 0, none⟩)] 64)).heap.size = w.heap.size + 1 := by simp
      rw [← e1]
      exact heap_alloc_new _ _
  have HR0 := Lib.hid ((h.alloc (.cells #[.pointer (some ⟨p, 0, none⟩)] 64)).alloc (.cells #[.int .i64 0, .string ⟨#[]⟩, .int .i64 0, .slice none 0 0, .slice none 0 0, .slice none 0 0, .slice none 0 0, .slice none 0 0, .slice none 0 0] 37)).drew
  have hBq : w.heap.size + 1 ≠ w.heap.size := by omega
  clear h
  have hmf : ∀ (fn : Fn) (first cap : Array Value) (w : World), (Instr.makeFunc fn first cap).run Tryz.prog w = .ok (.func fn first cap) w := fun _ _ _ _ => rfl
  go_enter Tryz.func49, Tryz.ntmps49
  go_wp2_with fail
  go_region_held3 (fun w' => w'.cell? ⟨w.heap.size, 0, none⟩ = some (.pointer (some ⟨p, 0, none⟩))) (first | (with_reducible exact HM0.out.q) | (with_reducible exact HM1.out.q) | (with_reducible exact HM2.out.q) | (with_reducible exact HM3.out.q) | ((repeat (with_reducible refine keep_set hBq ?_)); with_reducible exact HM3.out.q))
    (first
      | (go_at_call 59; refine (rint_any _ p full kind hk _ g off c HR0.out).mono ?_; rintro e w1 ⟨rfl, ⟨o1, c1, hR⟩, hF⟩; have HM1 := Lib.hid (HM0.out.call ⟨_, _, hR⟩ hF); have HR1 := Lib.hid hR; clear hR hF HR0; have hk1 := HM1.out.cell; have hm1 := HM1.out.froz; have hsz1 := HM1.out.sz)
      | (go_at_call 58; refine (rtext_any _ p full name hn _ g o1 c1 HR1.out).mono ?_; rintro e w2 ⟨rfl, ⟨o2, c2, hR⟩, hF⟩; have HM2 := Lib.hid (HM1.out.call ⟨_, _, hR⟩ hF); have HR2 := Lib.hid hR; clear hR hF HR1 hk1 hm1 hsz1; have hk2 := HM2.out.cell; have hm2 := HM2.out.froz; have hsz2 := HM2.out.sz)
      | (go_at_call 59; refine (rint_any _ p full rel hrel _ g o2 c2 HR2.out).mono ?_; rintro e w3 ⟨rfl, ⟨o3, c3, hR⟩, hF⟩; have HM3 := Lib.hid (HM2.out.call ⟨_, _, hR⟩ hF); have HR3 := Lib.hid hR; clear hR hF HR2 hk2 hm2 hsz2; have hk3 := HM3.out.cell; have hm3 := HM3.out.froz; have hsz3 := HM3.out.sz))
  go_wp2_with fail
  have HX0 := Lib.hid (show Md 37 w (((w3.setCell ⟨w.heap.size + 1, 0, none⟩ (.int .i64 kind)).setCell ⟨w.heap.size + 1, 1, none⟩ (.string name)).setCell ⟨w.heap.size + 1, 2, none⟩ (.int .i64 rel)) p full g _ #[.int .i64 kind, .string name, .int .i64 rel, .slice none 0 0, .slice none 0 0, .slice none 0 0, .slice none 0 0, .slice none 0 0, .slice none 0 0] from by simpa using ((HM3.out.store 0 (.int .i64 kind)).store 1 (.string name)).store 2 (.int .i64 rel))
  generalize ((w3.setCell ⟨w.heap.size + 1, 0, none⟩ (.int .i64 kind)).setCell ⟨w.heap.size + 1, 1, none⟩ (.string name)).setCell ⟨w.heap.size + 1, 2, none⟩ (.int .i64 rel) = X0 at *
  obtain ⟨p0, d0, HRX0⟩ := HX0.out.rr
  clear hk3 hm3 hsz3
  refine (read123_one _ p full (enc 1 ++ (enc since ++ (encB b1 ++ (encB b2 ++ (encS t.data.toList ++ (enc 0 ++ (enc 0 ++ (enc 0 ++ (enc 0 ++ (enc 0 ++ (enc 0 ++ (l)))))))))))) g p0 d0 s hs r hr HRX0 (w.heap.size) HX0.out.q (by omega)).mono ?_
  rintro e y0 ⟨bi, ci, rfl, hbi, hbi1, hbi2, hR, hF⟩
  have Cbi := Lib.hid hbi
  have hbi1' : w.heap.size + 1 < bi := by have := HX0.out.sz; omega
  have Sbi := Lib.hid hbi1'
  have Zbi := Lib.hid hbi2
  clear hbi hbi1 hbi1' hbi2
  have HY0 := Lib.hid (HX0.out.call hR hF)
  clear hR hF
  have hc0 := HY0.out.cell 3
  simp only [List.getElem?_toArray, List.getElem?_cons_zero, List.getElem?_cons_succ] at hc0
  have hm0 := HY0.out.froz 3
  have hq0 := HY0.out.q
  have hs0 := HY0.out.sz
  go_wp2_with fail
  have Cbi := Lib.hid (fun j u hu => keep_at (o := 3) (v := .slice (some ⟨bi, 0, none⟩) 1 ci) (show w.heap.size + 1 ≠ bi by have := Sbi.out; omega) (Cbi.out j u hu))
  have Zbi := Lib.hid (show bi < (y0.setCell ⟨w.heap.size + 1, 3, none⟩ (.slice (some ⟨bi, 0, none⟩) 1 ci)).heap.size by have := Zbi.out; simpa [World.setCell] using this)
  clear hc0 hm0 hq0 hs0
  have HX1 := Lib.hid (show Md 37 w (y0.setCell ⟨w.heap.size + 1, 3, none⟩ (.slice (some ⟨bi, 0, none⟩) 1 ci)) p full g _ #[.int .i64 kind, .string name, .int .i64 rel, .slice (some ⟨bi, 0, none⟩) 1 ci, .slice none 0 0, .slice none 0 0, .slice none 0 0, .slice none 0 0, .slice none 0 0] from by simpa using HY0.out.store 3 (.slice (some ⟨bi, 0, none⟩) 1 ci))
  generalize y0.setCell ⟨w.heap.size + 1, 3, none⟩ (.slice (some ⟨bi, 0, none⟩) 1 ci) = X1 at *
  obtain ⟨p1, d1, HRX1⟩ := HX1.out.rr
  refine (read125_one _ p full (enc 0 ++ (enc 0 ++ (enc 0 ++ (enc 0 ++ (l))))) g p1 d1 since hsi b1 b2 t ht HRX1 (w.heap.size) HX1.out.q (by omega)).mono ?_
  rintro e y1 ⟨bs, cs, rfl, hbs, hbs1, hbs2, hR, hF⟩
  have Cbs := Lib.hid hbs
  have hbs1' : w.heap.size + 1 < bs := by have := HX1.out.sz; omega
  have Sbs := Lib.hid hbs1'
  have Zbs := Lib.hid hbs2
  clear hbs hbs1 hbs1' hbs2
  have Cbi := Lib.hid (fun j u hu => (hF.cell (k := bi) Zbi.out (by have := Sbi.out; omega) j).trans (Cbi.out j u hu))
  have Zbi := Lib.hid (Nat.lt_of_lt_of_le Zbi.out hF.size)
  have HY1 := Lib.hid (HX1.out.call hR hF)
  clear hR hF
  have hc1 := HY1.out.cell 4
  simp only [List.getElem?_toArray, List.getElem?_cons_zero, List.getElem?_cons_succ] at hc1
  have hm1 := HY1.out.froz 4
  have hq1 := HY1.out.q
  have hs1 := HY1.out.sz
  go_wp2_with fail
  have Cbi := Lib.hid (fun j u hu => keep_at (o := 4) (v := .slice (some ⟨bs, 0, none⟩) 1 cs) (show w.heap.size + 1 ≠ bi by have := Sbi.out; omega) (Cbi.out j u hu))
  have Zbi := Lib.hid (show bi < (y1.setCell ⟨w.heap.size + 1, 4, none⟩ (.slice (some ⟨bs, 0, none⟩) 1 cs)).heap.size by have := Zbi.out; simpa [World.setCell] using this)
  have Cbs := Lib.hid (fun j u hu => keep_at (o := 4) (v := .slice (some ⟨bs, 0, none⟩) 1 cs) (show w.heap.size + 1 ≠ bs by have := Sbs.out; omega) (Cbs.out j u hu))
  have Zbs := Lib.hid (show bs < (y1.setCell ⟨w.heap.size + 1, 4, none⟩ (.slice (some ⟨bs, 0, none⟩) 1 cs)).heap.size by have := Zbs.out; simpa [World.setCell] using this)
  clear hc1 hm1 hq1 hs1
  have HX2 := Lib.hid (show Md 37 w (y1.setCell ⟨w.heap.size + 1, 4, none⟩ (.slice (some ⟨bs, 0, none⟩) 1 cs)) p full g _ #[.int .i64 kind, .string name, .int .i64 rel, .slice (some ⟨bi, 0, none⟩) 1 ci, .slice (some ⟨bs, 0, none⟩) 1 cs, .slice none 0 0, .slice none 0 0, .slice none 0 0, .slice none 0 0] from by simpa using HY1.out.store 4 (.slice (some ⟨bs, 0, none⟩) 1 cs))
  generalize y1.setCell ⟨w.heap.size + 1, 4, none⟩ (.slice (some ⟨bs, 0, none⟩) 1 cs) = X2 at *
  obtain ⟨p2, d2, HRX2⟩ := HX2.out.rr
  refine (read131_nil _ p full _ g p2 d2 HRX2 _ _ _).mono ?_
  rintro e y2 ⟨rfl, hR, hF⟩
  have Cbi := Lib.hid (fun j u hu => (hF.cell (k := bi) Zbi.out (by have := Sbi.out; omega) j).trans (Cbi.out j u hu))
  have Zbi := Lib.hid (Nat.lt_of_lt_of_le Zbi.out hF.size)
  have Cbs := Lib.hid (fun j u hu => (hF.cell (k := bs) Zbs.out (by have := Sbs.out; omega) j).trans (Cbs.out j u hu))
  have Zbs := Lib.hid (Nat.lt_of_lt_of_le Zbs.out hF.size)
  have HY2 := Lib.hid (HX2.out.call hR hF)
  clear hR hF
  have hc2 := HY2.out.cell 5
  simp only [List.getElem?_toArray, List.getElem?_cons_zero, List.getElem?_cons_succ] at hc2
  have hm2 := HY2.out.froz 5
  have hq2 := HY2.out.q
  have hs2 := HY2.out.sz
  go_wp2_with fail
  have Cbi := Lib.hid (fun j u hu => keep_at (o := 5) (v := .slice none 0 0) (show w.heap.size + 1 ≠ bi by have := Sbi.out; omega) (Cbi.out j u hu))
  have Zbi := Lib.hid (show bi < (y2.setCell ⟨w.heap.size + 1, 5, none⟩ (.slice none 0 0)).heap.size by have := Zbi.out; simpa [World.setCell] using this)
  have Cbs := Lib.hid (fun j u hu => keep_at (o := 5) (v := .slice none 0 0) (show w.heap.size + 1 ≠ bs by have := Sbs.out; omega) (Cbs.out j u hu))
  have Zbs := Lib.hid (show bs < (y2.setCell ⟨w.heap.size + 1, 5, none⟩ (.slice none 0 0)).heap.size by have := Zbs.out; simpa [World.setCell] using this)
  clear hc2 hm2 hq2 hs2
  have HX3 := Lib.hid (show Md 37 w (y2.setCell ⟨w.heap.size + 1, 5, none⟩ (.slice none 0 0)) p full g _ #[.int .i64 kind, .string name, .int .i64 rel, .slice (some ⟨bi, 0, none⟩) 1 ci, .slice (some ⟨bs, 0, none⟩) 1 cs, .slice none 0 0, .slice none 0 0, .slice none 0 0, .slice none 0 0] from by simpa using HY2.out.store 5 (.slice none 0 0))
  generalize y2.setCell ⟨w.heap.size + 1, 5, none⟩ (.slice none 0 0) = X3 at *
  obtain ⟨p3, d3, HRX3⟩ := HX3.out.rr
  refine (read136_nil _ p full _ g p3 d3 HRX3 _ _ _).mono ?_
  rintro e y3 ⟨rfl, hR, hF⟩
  have Cbi := Lib.hid (fun j u hu => (hF.cell (k := bi) Zbi.out (by have := Sbi.out; omega) j).trans (Cbi.out j u hu))
  have Zbi := Lib.hid (Nat.lt_of_lt_of_le Zbi.out hF.size)
  have Cbs := Lib.hid (fun j u hu => (hF.cell (k := bs) Zbs.out (by have := Sbs.out; omega) j).trans (Cbs.out j u hu))
  have Zbs := Lib.hid (Nat.lt_of_lt_of_le Zbs.out hF.size)
  have HY3 := Lib.hid (HX3.out.call hR hF)
  clear hR hF
  have hc3 := HY3.out.cell 6
  simp only [List.getElem?_toArray, List.getElem?_cons_zero, List.getElem?_cons_succ] at hc3
  have hm3 := HY3.out.froz 6
  have hq3 := HY3.out.q
  have hs3 := HY3.out.sz
  go_wp2_with fail
  have Cbi := Lib.hid (fun j u hu => keep_at (o := 6) (v := .slice none 0 0) (show w.heap.size + 1 ≠ bi by have := Sbi.out; omega) (Cbi.out j u hu))
  have Zbi := Lib.hid (show bi < (y3.setCell ⟨w.heap.size + 1, 6, none⟩ (.slice none 0 0)).heap.size by have := Zbi.out; simpa [World.setCell] using this)
  have Cbs := Lib.hid (fun j u hu => keep_at (o := 6) (v := .slice none 0 0) (show w.heap.size + 1 ≠ bs by have := Sbs.out; omega) (Cbs.out j u hu))
  have Zbs := Lib.hid (show bs < (y3.setCell ⟨w.heap.size + 1, 6, none⟩ (.slice none 0 0)).heap.size by have := Zbs.out; simpa [World.setCell] using this)
  clear hc3 hm3 hq3 hs3
  have HX4 := Lib.hid (show Md 37 w (y3.setCell ⟨w.heap.size + 1, 6, none⟩ (.slice none 0 0)) p full g _ #[.int .i64 kind, .string name, .int .i64 rel, .slice (some ⟨bi, 0, none⟩) 1 ci, .slice (some ⟨bs, 0, none⟩) 1 cs, .slice none 0 0, .slice none 0 0, .slice none 0 0, .slice none 0 0] from by simpa using HY3.out.store 6 (.slice none 0 0))
  generalize y3.setCell ⟨w.heap.size + 1, 6, none⟩ (.slice none 0 0) = X4 at *
  obtain ⟨p4, d4, HRX4⟩ := HX4.out.rr
  refine (read140_nil _ p full _ g p4 d4 HRX4 _ _ _).mono ?_
  rintro e y4 ⟨rfl, hR, hF⟩
  have Cbi := Lib.hid (fun j u hu => (hF.cell (k := bi) Zbi.out (by have := Sbi.out; omega) j).trans (Cbi.out j u hu))
  have Zbi := Lib.hid (Nat.lt_of_lt_of_le Zbi.out hF.size)
  have Cbs := Lib.hid (fun j u hu => (hF.cell (k := bs) Zbs.out (by have := Sbs.out; omega) j).trans (Cbs.out j u hu))
  have Zbs := Lib.hid (Nat.lt_of_lt_of_le Zbs.out hF.size)
  have HY4 := Lib.hid (HX4.out.call hR hF)
  clear hR hF
  have hc4 := HY4.out.cell 7
  simp only [List.getElem?_toArray, List.getElem?_cons_zero, List.getElem?_cons_succ] at hc4
  have hm4 := HY4.out.froz 7
  have hq4 := HY4.out.q
  have hs4 := HY4.out.sz
  go_wp2_with fail
  have Cbi := Lib.hid (fun j u hu => keep_at (o := 7) (v := .slice none 0 0) (show w.heap.size + 1 ≠ bi by have := Sbi.out; omega) (Cbi.out j u hu))
  have Zbi := Lib.hid (show bi < (y4.setCell ⟨w.heap.size + 1, 7, none⟩ (.slice none 0 0)).heap.size by have := Zbi.out; simpa [World.setCell] using this)
  have Cbs := Lib.hid (fun j u hu => keep_at (o := 7) (v := .slice none 0 0) (show w.heap.size + 1 ≠ bs by have := Sbs.out; omega) (Cbs.out j u hu))
  have Zbs := Lib.hid (show bs < (y4.setCell ⟨w.heap.size + 1, 7, none⟩ (.slice none 0 0)).heap.size by have := Zbs.out; simpa [World.setCell] using this)
  clear hc4 hm4 hq4 hs4
  have HX5 := Lib.hid (show Md 37 w (y4.setCell ⟨w.heap.size + 1, 7, none⟩ (.slice none 0 0)) p full g _ #[.int .i64 kind, .string name, .int .i64 rel, .slice (some ⟨bi, 0, none⟩) 1 ci, .slice (some ⟨bs, 0, none⟩) 1 cs, .slice none 0 0, .slice none 0 0, .slice none 0 0, .slice none 0 0] from by simpa using HY4.out.store 7 (.slice none 0 0))
  generalize y4.setCell ⟨w.heap.size + 1, 7, none⟩ (.slice none 0 0) = X5 at *
  obtain ⟨p5, d5, HRX5⟩ := HX5.out.rr
  refine (read146_nil _ p full _ g p5 d5 HRX5 _ _ _).mono ?_
  rintro e y5 ⟨rfl, hR, hF⟩
  have Cbi := Lib.hid (fun j u hu => (hF.cell (k := bi) Zbi.out (by have := Sbi.out; omega) j).trans (Cbi.out j u hu))
  have Zbi := Lib.hid (Nat.lt_of_lt_of_le Zbi.out hF.size)
  have Cbs := Lib.hid (fun j u hu => (hF.cell (k := bs) Zbs.out (by have := Sbs.out; omega) j).trans (Cbs.out j u hu))
  have Zbs := Lib.hid (Nat.lt_of_lt_of_le Zbs.out hF.size)
  have HY5 := Lib.hid (HX5.out.call hR hF)
  clear hR hF
  have hc5 := HY5.out.cell 8
  simp only [List.getElem?_toArray, List.getElem?_cons_zero, List.getElem?_cons_succ] at hc5
  have hm5 := HY5.out.froz 8
  have hq5 := HY5.out.q
  have hs5 := HY5.out.sz
  have hz0 := HY5.out.cell 0
  have hz1 := HY5.out.cell 1
  have hz2 := HY5.out.cell 2
  have hz3 := HY5.out.cell 3
  have hz4 := HY5.out.cell 4
  have hz5 := HY5.out.cell 5
  have hz6 := HY5.out.cell 6
  have hz7 := HY5.out.cell 7
  simp only [List.getElem?_toArray, List.getElem?_cons_zero, List.getElem?_cons_succ] at hz0 hz1 hz2 hz3 hz4 hz5 hz6 hz7
  have hmz := HY5.out.froz
  clear hm5
  go_wp2_with fail
  have HE := Lib.hid ((((((((((HY5.out.store 8 (.slice none 0 0)).store 0 (.int .i64 kind)).store 1 (.string name)).store 2 (.int .i64 rel)).store 3 (.slice (some ⟨bi, 0, none⟩) 1 ci)).store 4 (.slice (some ⟨bs, 0, none⟩) 1 cs)).store 5 (.slice none 0 0)).store 6 (.slice none 0 0)).store 7 (.slice none 0 0)).store 8 (.slice none 0 0))
  have hB := HE.out.b
  simp at hB
  have f0 := cell_at hB 0
  have f1 := cell_at hB 1
  have f2 := cell_at hB 2
  have f3 := cell_at hB 3
  have f4 := cell_at hB 4
  have f5 := cell_at hB 5
  have f6 := cell_at hB 6
  have f7 := cell_at hB 7
  have f8 := cell_at hB 8
  simp only [List.getElem?_toArray, List.getElem?_cons_zero, List.getElem?_cons_succ] at f0 f1 f2 f3 f4 f5 f6 f7 f8
  refine bodyPost_ret (v := .agg #[.int .i64 kind, .string name, .int .i64 rel, .slice (some ⟨bi, 0, none⟩) 1 ci, .slice (some ⟨bs, 0, none⟩) 1 cs, .slice none 0 0, .slice none 0 0, .slice none 0 0, .slice none 0 0]) (by simp [results, Tryz.results49, go_sem, f0, f1, f2, f3, f4, f5, f6, f7, f8]) rfl ?_
  exact ⟨bi, ci, bs, cs, rfl, fun j u hu => (keep_at (show w.heap.size + 1 ≠ bi by have := Sbi.out; omega) (keep_at (show w.heap.size + 1 ≠ bi by have := Sbi.out; omega) (keep_at (show w.heap.size + 1 ≠ bi by have := Sbi.out; omega) (keep_at (show w.heap.size + 1 ≠ bi by have := Sbi.out; omega) (keep_at (show w.heap.size + 1 ≠ bi by have := Sbi.out; omega) (keep_at (show w.heap.size + 1 ≠ bi by have := Sbi.out; omega) (keep_at (show w.heap.size + 1 ≠ bi by have := Sbi.out; omega) (keep_at (show w.heap.size + 1 ≠ bi by have := Sbi.out; omega) (keep_at (show w.heap.size + 1 ≠ bi by have := Sbi.out; omega) (keep_at (show w.heap.size + 1 ≠ bi by have := Sbi.out; omega) (Cbi.out j u hu))))))))))), fun j u hu => (keep_at (show w.heap.size + 1 ≠ bs by have := Sbs.out; omega) (keep_at (show w.heap.size + 1 ≠ bs by have := Sbs.out; omega) (keep_at (show w.heap.size + 1 ≠ bs by have := Sbs.out; omega) (keep_at (show w.heap.size + 1 ≠ bs by have := Sbs.out; omega) (keep_at (show w.heap.size + 1 ≠ bs by have := Sbs.out; omega) (keep_at (show w.heap.size + 1 ≠ bs by have := Sbs.out; omega) (keep_at (show w.heap.size + 1 ≠ bs by have := Sbs.out; omega) (keep_at (show w.heap.size + 1 ≠ bs by have := Sbs.out; omega) (keep_at (show w.heap.size + 1 ≠ bs by have := Sbs.out; omega) (keep_at (show w.heap.size + 1 ≠ bs by have := Sbs.out; omega) (Cbs.out j u hu))))))))))), by have := Sbi.out; omega, by have := Sbs.out; omega, by have := Zbi.out; simpa [World.setCell] using this, by have := Zbs.out; simpa [World.setCell] using this, HE.out.rr, HE.out.f⟩

end Go.Proofs.YtgliaafiompilabGreatDoor

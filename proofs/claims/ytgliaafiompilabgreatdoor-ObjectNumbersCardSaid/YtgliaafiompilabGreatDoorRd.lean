/- The walks of the reader's lists of one element. -/
import Derived.Test.YtgliaafiompilabGreatDoorRc
namespace Go.Proofs.YtgliaafiompilabGreatDoor
open Go.RowKit Go.Lib

/-- What reading a list of one element comes to: a new slice of one element, whose cells are xs; the bytes l are left. -/
def LPost (w : World) (p : Nat) (full : Bool) (xs : List Value) (l : List UInt8) (g : Nat) (e : Ending) (w' : World) : Prop :=
  ∃ b cap, e = .returned (.slice (some ⟨b, 0, none⟩) 1 cap) ∧ (∀ j u, xs[j]? = some u → w'.cell? ⟨b, j, none⟩ = some u) ∧ w.heap.size ≤ b ∧ b < w'.heap.size ∧ (∃ off c, Rr w' p full l g off c) ∧ FStep p w w'

theorem own_one {w : World} {base e size : Nat} {v : Value} {xs : List Value} (h : w.ownsRow base e size v 1 xs) :
    ∃ b cap, v = .slice (some ⟨b, 0, none⟩) 1 cap ∧ base ≤ b ∧ b < w.heap.size ∧ ∀ j u, xs[j]? = some u → w.cell? ⟨b, j, none⟩ = some u := by
  have hc := fun g hg => h.cells (g := g) hg
  rcases h.2 with ⟨_, h0⟩ | ⟨g, cap, cur, rfl, hb, hg, _⟩
  · omega
  · refine ⟨g, cap, rfl, hb, (Array.getElem?_eq_some_iff.1 hg).1, fun j u hu => ?_⟩
    have := hc g rfl j u hu
    rw [addr_add] at this
    exact this

theorem FStep.grown {p : Nat} {w x x' : World} (h : FStep p w x) (hg : x.grownBy x' none) : FStep p w x' :=
  ⟨hg.os.trans h.os, hg.tape.trans h.tape, hg.output.trans h.output, Nat.le_trans h.size hg.size, fun k hk hp => (hg.block k (Nat.lt_of_lt_of_le hk h.size) (by simp)).trans (h.block k hk hp)⟩
theorem Rr.grown {w x : World} {p : Nat} {full : Bool} {l : List UInt8} {g off c : Nat} (h : Rr w p full l g off c) (hg : w.grownBy x none) : Rr x p full l g off c :=
  h.kept (hg.block p h.lt (by simp)) (hg.block g h.2.2.2.2.1 (by simp)) hg.size

theorem Tryz.u26 : Tryz.prog.underlying 26 = some (.slice 25) := by kernel_rfl
theorem Tryz.u31 : Tryz.prog.underlying 31 = some (.slice 30) := by kernel_rfl
theorem Tryz.u40 : Tryz.prog.underlying 40 = some (.slice 39) := by kernel_rfl
theorem Tryz.i25 : (Tryz.prog.info? 25).map (fun i => (i.zero, i.size, i.bytes)) = some (some (.agg #[.string ⟨#[]⟩, .int .i64 0]), 2, 24) := by kernel_rfl
theorem Tryz.i30 : (Tryz.prog.info? 30).map (fun i => (i.zero, i.size, i.bytes)) = some (some (.agg #[.int .i64 0, .bool false, .bool false, .string ⟨#[]⟩, .slice none 0 0, .slice none 0 0]), 6, 80) := by kernel_rfl
theorem Tryz.i39 : (Tryz.prog.info? 39).map (fun i => (i.zero, i.size, i.bytes)) = some (some (.agg #[.string ⟨#[]⟩, .int .i64 0, .int .u64 0]), 3, 32) := by kernel_rfl

theorem cells_new (w : World) (e : TypeId) (xs : List Value) : ∀ j u, xs[j]? = some u → (w.alloc (.cells xs.toArray e)).cell? ((⟨w.heap.size, 0, none⟩ : Addr).add j) = some u := by
  intro j u hu
  rw [addr_add, cell_of_row _ w.heap.size j xs.toArray e (0, 0) (heap_alloc_new w _)]
  simpa using hu

theorem encS_pos (s : ByteArray) : 1 ≤ (encS s.data.toList).length := by
  unfold encS enc
  have := vb_pos (zig (s.data.toList.length : Int))
  rw [List.length_append]
  omega

set_option maxRecDepth 100000 in
set_option maxHeartbeats 2000000 in
theorem read123_one (w : World) (p : Nat) (full : Bool) (l : List UInt8) (g off c : Nat) (s : ByteArray) (hs : I64 (s.size : Int)) (r : Int) (hr : I64 r) (h : Rr w p full (enc 1 ++ (encS s.data.toList ++ (enc r ++ l))) g off c) (q : Nat) (hq : w.cell? ⟨q, 0, none⟩ = some (.pointer (some ⟨p, 0, none⟩))) (hqp : q ≠ p) :
    Calls Tryz.prog 123 #[.pointer (some ⟨p, 0, none⟩), .func (.func 124) #[] #[.pointer (some ⟨q, 0, none⟩)]] w (LPost w p full [.string s, .int .i64 r] l g) := by
  have hc0 := h.cell0
  have hz : (enc 1 ++ (encS s.data.toList ++ (enc r ++ l))).length = (enc 1).length + (encS s.data.toList ++ (enc r ++ l)).length := List.length_append
  rw [hz] at hc0
  have hne : 1 ≤ (encS s.data.toList ++ (enc r ++ l)).length := by have := encS_pos s; simp only [List.length_append]; omega
  have hqs : q < w.heap.size := World.block_lt_of_cell? w _ hq
  have H := Lib.hid h
  have HQ := Lib.hid hq
  obtain ⟨i0, hi, hz0, hz1, hz2⟩ := info_parts Tryz.i25
  generalize hx : (encS s.data.toList ++ (enc r ++ l)) = x at *
  have HX := Lib.hid hx
  clear h hz hq hx
  go_enter Tryz.func123, Tryz.ntmps123
  go_wp2_with fail
  refine (within_any w p full 1 _ _ (by decide) (by decide) (by omega) x g off c H.out).mono ?_
  rintro e w1 ⟨rfl, ⟨o1, c1, hR⟩, hF⟩
  have hc1 := hR.cell1
  have hq1 := (hF.cell hqs hqp 0).trans HQ.out
  rw [← HX.out] at hR
  have HQ1 := Lib.hid hq1
  have HR := Lib.hid hR
  have HF := Lib.hid hF
  clear hR hF hq1
  go_wp2_with fail
  refine wp_loop_rounds 2 ?_
  rw [rounds_succ]
  go_wp2_with fail
  refine (rmodule1_any _ p full l g o1 c1 s hs r hr HR.out q HQ1.out hqp).mono ?_
  rintro e w2 ⟨rfl, ⟨o2, c2, hR⟩, hF⟩
  have HR2 := Lib.hid hR
  have HF2 := Lib.hid (HF.out.trans hF)
  clear hR hF
  go_wp2_with (at_builtin; refine wpList_append_own _ rfl _ _ 26 rfl (w2.heap.size + 1) 25 i0 _ 2 24 Tryz.u26 hi hz0 hz1 hz2 rfl (by decide) _ 0 [] rfl (World.ownsRow_nil _ _ _ _) ⟨w2.heap.size, 0, none⟩ 1 1 [.string s, .int .i64 r] rfl rfl ?c1 ?c2 ?c3 ?c4 ?c5 ?_)
  case c1 => exact cells_new w2 25 [.string s, .int .i64 r]
  case c2 => simp [Value.oneCell']
  case c3 => decide
  case c4 => decide
  case c5 => simp
  intro v' w3 hown hgrow _
  obtain ⟨b, cap, hv, hb1, hb2, hb3⟩ := own_one hown
  rw [hv]
  have HG : Hid ((w2.alloc (.cells #[.string s, .int .i64 r] 25)).grownBy w3 none) := hgrow
  have HB1 := Lib.hid hb1
  have HB2 := Lib.hid hb2
  have HB3 := Lib.hid hb3
  clear hown hgrow hv hb1 hb2 hb3
  go_wp2_with fail
  rw [rounds_succ]
  go_wp2_with fail
  go_ret
  exact ⟨b, cap, rfl, HB3.out, by have := HB1.out; have := HF2.out.size; omega, HB2.out, ⟨o2, c2, (HR2.out.alloc _).grown HG.out⟩, (HF2.out.trans (FStep.alloc p w2 _)).grown HG.out⟩

set_option maxRecDepth 100000 in
set_option maxHeartbeats 2000000 in
theorem read56_one (w : World) (p : Nat) (full : Bool) (l : List UInt8) (g off c : Nat) (s : ByteArray) (hs : I64 (s.size : Int)) (r : Int) (hr : I64 r) (d : Nat) (hd : U64 d) (h : Rr w p full (enc 1 ++ (encS s.data.toList ++ (enc r ++ (lb d ++ l)))) g off c) (q : Nat) (hq : w.cell? ⟨q, 0, none⟩ = some (.pointer (some ⟨p, 0, none⟩))) (hqp : q ≠ p) :
    Calls Tryz.prog 56 #[.pointer (some ⟨p, 0, none⟩), .func (.func 57) #[] #[.pointer (some ⟨q, 0, none⟩)]] w (LPost w p full [.string s, .int .i64 r, .int .u64 d] l g) := by
  have hc0 := h.cell0
  have hz : (enc 1 ++ (encS s.data.toList ++ (enc r ++ (lb d ++ l)))).length = (enc 1).length + (encS s.data.toList ++ (enc r ++ (lb d ++ l))).length := List.length_append
  rw [hz] at hc0
  have hne : 1 ≤ (encS s.data.toList ++ (enc r ++ (lb d ++ l))).length := by have := encS_pos s; simp only [List.length_append]; omega
  have hqs : q < w.heap.size := World.block_lt_of_cell? w _ hq
  have H := Lib.hid h
  have HQ := Lib.hid hq
  obtain ⟨i0, hi, hz0, hz1, hz2⟩ := info_parts Tryz.i39
  generalize hx : (encS s.data.toList ++ (enc r ++ (lb d ++ l))) = x at *
  have HX := Lib.hid hx
  clear h hz hq hx
  go_enter Tryz.func56, Tryz.ntmps56
  go_wp2_with fail
  refine (within_any w p full 1 _ _ (by decide) (by decide) (by omega) x g off c H.out).mono ?_
  rintro e w1 ⟨rfl, ⟨o1, c1, hR⟩, hF⟩
  have hc1 := hR.cell1
  have hq1 := (hF.cell hqs hqp 0).trans HQ.out
  rw [← HX.out] at hR
  have HQ1 := Lib.hid hq1
  have HR := Lib.hid hR
  have HF := Lib.hid hF
  clear hR hF hq1
  go_wp2_with fail
  refine wp_loop_rounds 2 ?_
  rw [rounds_succ]
  go_wp2_with fail
  refine (robject2_any _ p full l g o1 c1 s hs r hr d hd HR.out q HQ1.out hqp).mono ?_
  rintro e w2 ⟨rfl, ⟨o2, c2, hR⟩, hF⟩
  have HR2 := Lib.hid hR
  have HF2 := Lib.hid (HF.out.trans hF)
  clear hR hF
  go_wp2_with (at_builtin; refine wpList_append_own _ rfl _ _ 40 rfl (w2.heap.size + 1) 39 i0 _ 3 32 Tryz.u40 hi hz0 hz1 hz2 rfl (by decide) _ 0 [] rfl (World.ownsRow_nil _ _ _ _) ⟨w2.heap.size, 0, none⟩ 1 1 [.string s, .int .i64 r, .int .u64 d] rfl rfl ?c1 ?c2 ?c3 ?c4 ?c5 ?_)
  case c1 => exact cells_new w2 39 [.string s, .int .i64 r, .int .u64 d]
  case c2 => simp [Value.oneCell']
  case c3 => decide
  case c4 => decide
  case c5 => simp
  intro v' w3 hown hgrow _
  obtain ⟨b, cap, hv, hb1, hb2, hb3⟩ := own_one hown
  rw [hv]
  have HG : Hid ((w2.alloc (.cells #[.string s, .int .i64 r, .int .u64 d] 39)).grownBy w3 none) := hgrow
  have HB1 := Lib.hid hb1
  have HB2 := Lib.hid hb2
  have HB3 := Lib.hid hb3
  clear hown hgrow hv hb1 hb2 hb3
  go_wp2_with fail
  rw [rounds_succ]
  go_wp2_with fail
  go_ret
  exact ⟨b, cap, rfl, HB3.out, by have := HB1.out; have := HF2.out.size; omega, HB2.out, ⟨o2, c2, (HR2.out.alloc _).grown HG.out⟩, (HF2.out.trans (FStep.alloc p w2 _)).grown HG.out⟩

set_option maxRecDepth 100000 in
set_option maxHeartbeats 2000000 in
theorem read125_one (w : World) (p : Nat) (full : Bool) (l : List UInt8) (g off c : Nat) (since : Int) (hsi : I64 since) (b1 b2 : Bool) (s : ByteArray) (hs : I64 (s.size : Int)) (h : Rr w p full (enc 1 ++ (enc since ++ (encB b1 ++ (encB b2 ++ (encS s.data.toList ++ (enc 0 ++ (enc 0 ++ l))))))) g off c) (q : Nat) (hq : w.cell? ⟨q, 0, none⟩ = some (.pointer (some ⟨p, 0, none⟩))) (hqp : q ≠ p) :
    Calls Tryz.prog 125 #[.pointer (some ⟨p, 0, none⟩), .func (.func 126) #[] #[.pointer (some ⟨q, 0, none⟩)]] w (LPost w p full [.int .i64 since, .bool b1, .bool b2, .string s, .slice none 0 0, .slice none 0 0] l g) := by
  have hc0 := h.cell0
  have hz : (enc 1 ++ (enc since ++ (encB b1 ++ (encB b2 ++ (encS s.data.toList ++ (enc 0 ++ (enc 0 ++ l))))))).length = (enc 1).length + (enc since ++ (encB b1 ++ (encB b2 ++ (encS s.data.toList ++ (enc 0 ++ (enc 0 ++ l)))))).length := List.length_append
  rw [hz] at hc0
  have hne : 1 ≤ (enc since ++ (encB b1 ++ (encB b2 ++ (encS s.data.toList ++ (enc 0 ++ (enc 0 ++ l)))))).length := by have := vb_pos (zig since); simp only [List.length_append]; unfold enc at *; omega
  have hqs : q < w.heap.size := World.block_lt_of_cell? w _ hq
  have H := Lib.hid h
  have HQ := Lib.hid hq
  obtain ⟨i0, hi, hz0, hz1, hz2⟩ := info_parts Tryz.i30
  generalize hx : (enc since ++ (encB b1 ++ (encB b2 ++ (encS s.data.toList ++ (enc 0 ++ (enc 0 ++ l)))))) = x at *
  have HX := Lib.hid hx
  clear h hz hq hx
  go_enter Tryz.func125, Tryz.ntmps125
  go_wp2_with fail
  refine (within_any w p full 1 _ _ (by decide) (by decide) (by omega) x g off c H.out).mono ?_
  rintro e w1 ⟨rfl, ⟨o1, c1, hR⟩, hF⟩
  have hc1 := hR.cell1
  have hq1 := (hF.cell hqs hqp 0).trans HQ.out
  rw [← HX.out] at hR
  have HQ1 := Lib.hid hq1
  have HR := Lib.hid hR
  have HF := Lib.hid hF
  clear hR hF hq1
  go_wp2_with fail
  refine wp_loop_rounds 2 ?_
  rw [rounds_succ]
  go_wp2_with fail
  refine (rmodule2_any _ p full l g o1 c1 since hsi b1 b2 s hs HR.out q HQ1.out hqp).mono ?_
  rintro e w2 ⟨rfl, ⟨o2, c2, hR⟩, hF⟩
  have HR2 := Lib.hid hR
  have HF2 := Lib.hid (HF.out.trans hF)
  clear hR hF
  go_wp2_with (at_builtin; refine wpList_append_own _ rfl _ _ 31 rfl (w2.heap.size + 1) 30 i0 _ 6 80 Tryz.u31 hi hz0 hz1 hz2 rfl (by decide) _ 0 [] rfl (World.ownsRow_nil _ _ _ _) ⟨w2.heap.size, 0, none⟩ 1 1 [.int .i64 since, .bool b1, .bool b2, .string s, .slice none 0 0, .slice none 0 0] rfl rfl ?c1 ?c2 ?c3 ?c4 ?c5 ?_)
  case c1 => exact cells_new w2 30 [.int .i64 since, .bool b1, .bool b2, .string s, .slice none 0 0, .slice none 0 0]
  case c2 => simp [Value.oneCell']
  case c3 => decide
  case c4 => decide
  case c5 => simp
  intro v' w3 hown hgrow _
  obtain ⟨b, cap, hv, hb1, hb2, hb3⟩ := own_one hown
  rw [hv]
  have HG : Hid ((w2.alloc (.cells #[.int .i64 since, .bool b1, .bool b2, .string s, .slice none 0 0, .slice none 0 0] 30)).grownBy w3 none) := hgrow
  have HB1 := Lib.hid hb1
  have HB2 := Lib.hid hb2
  have HB3 := Lib.hid hb3
  clear hown hgrow hv hb1 hb2 hb3
  go_wp2_with fail
  rw [rounds_succ]
  go_wp2_with fail
  go_ret
  exact ⟨b, cap, rfl, HB3.out, by have := HB1.out; have := HF2.out.size; omega, HB2.out, ⟨o2, c2, (HR2.out.alloc _).grown HG.out⟩, (HF2.out.trans (FStep.alloc p w2 _)).grown HG.out⟩

end Go.Proofs.YtgliaafiompilabGreatDoor

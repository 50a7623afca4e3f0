/- The walks of what compares two objects. -/
import Derived.Test.YtgliaafiompilabGreatDoorRg
namespace Go.Proofs.YtgliaafiompilabGreatDoor
open Go.RowKit Go.Lib

/-- What 'whole' comes to: the bytes l. -/
def HPost (w : World) (l : List UInt8) (e : Ending) (w' : World) : Prop :=
  ∃ g c, e = .returned (.slice (some ⟨g, 0, none⟩) l.length c) ∧ Rd w' g 0 l ∧ g < w'.heap.size ∧ Below w.heap.size w w'

theorem Wr_new (w : World) (T : TypeId) (tl : List Value) : Wr (w.alloc (.cells (Value.slice none 0 0 :: tl).toArray T)) T 5 tl w.heap.size [] :=
  ⟨.slice none 0 0, heap_alloc_new _ _, .inl ⟨rfl, rfl⟩, by simp [Value.ownBlock]⟩
theorem bufBlock_new (w : World) (T : TypeId) (tl : List Value) : bufBlock (w.alloc (.cells (Value.slice none 0 0 :: tl).toArray T)) w.heap.size = none := by
  rw [bufBlock_of (heap_alloc_new w _)]; rfl
theorem Apart_new (w : World) (T : TypeId) (tl : List Value) {k : Nat} (h : k < w.heap.size) : Apart w.heap.size (w.alloc (.cells (Value.slice none 0 0 :: tl).toArray T)) k :=
  ⟨by simp; omega, by omega, by rw [bufBlock_new]; simp⟩

set_option maxRecDepth 100000 in
set_option maxHeartbeats 4000000 in
theorem whole_bare (w : World) (kind : Int) (name : ByteArray) (rel : Int) (hk : I64 kind) (hrel : I64 rel) (hsz : name.size ≤ 10000)  :
    Calls Tryz.prog 20 #[.agg #[.int .i64 kind, .string name, .int .i64 rel, .slice none 0 0, .slice none 0 0, .slice none 0 0, .slice none 0 0, .slice none 0 0, .slice none 0 0, .slice none 0 0, .slice none 0 0, .slice none 0 0]] w (HPost w (encObject (encModule kind name rel (enc 0) (enc 0)) (enc 0))) := by
  have HM := Lib.hid (Wr_new (w.alloc (.cells #[.int .i64 kind, .string name, .int .i64 rel, .slice none 0 0, .slice none 0 0, .slice none 0 0, .slice none 0 0, .slice none 0 0, .slice none 0 0, .slice none 0 0, .slice none 0 0, .slice none 0 0] 44)) 56 [.bool true])
  have HA := Lib.hid (Apart_new (w.alloc (.cells #[.int .i64 kind, .string name, .int .i64 rel, .slice none 0 0, .slice none 0 0, .slice none 0 0, .slice none 0 0, .slice none 0 0, .slice none 0 0, .slice none 0 0, .slice none 0 0, .slice none 0 0] 44)) 56 [.bool true] (k := w.heap.size) (by simp))
  have HBB := Lib.hid (bufBlock_new (w.alloc (.cells #[.int .i64 kind, .string name, .int .i64 rel, .slice none 0 0, .slice none 0 0, .slice none 0 0, .slice none 0 0, .slice none 0 0, .slice none 0 0, .slice none 0 0, .slice none 0 0, .slice none 0 0] 44)) 56 [.bool true])
  have e1 : (w.alloc (.cells #[.int .i64 kind, .string name, .int .i64 rel, .slice none 0 0, .slice none 0 0, .slice none 0 0, .slice none 0 0, .slice none 0 0, .slice none 0 0, .slice none 0 0, .slice none 0 0, .slice none 0 0] 44)).heap.size = w.heap.size + 1 := by simp
  rw [e1] at HM HA HBB
  clear e1
  go_enter Tryz.func20, Tryz.ntmps20
  go_wp2_with fail
  refine (object_bare (w.heap.size + 1) true [] _ HM.out kind name rel hk hrel (show Short _ [] by unfold Short; simp; omega)).mono ?_
  rintro e w2 ⟨rfl, hW2, hS2⟩
  rw [List.nil_append] at hW2
  have hlb : 0 < (encObject (encModule kind name rel (enc 0) (enc 0)) (enc 0)).length := by have := vb_pos (zig kind); unfold encObject encModule enc at *; simp only [List.length_append]; omega
  obtain ⟨g, c, hA2, hc, hRd, hgc⟩ := hW2.at2 hlb
  have HRd := Lib.hid hRd
  have HG : Hid (g < w2.heap.size) := Lib.hid (hA2.2.1.lt g rfl)
  have HS2 := Lib.hid hS2
  clear hW2 hS2 hA2 hRd hlb hgc
  generalize (encObject (encModule kind name rel (enc 0) (enc 0)) (enc 0)) = body at *
  go_wp2_with fail
  go_ret
  exact ⟨g, c, rfl, HRd.out, HG.out, (((Below.refl _ _).alloc (Nat.le_refl _) (.cells #[.int .i64 kind, .string name, .int .i64 rel, .slice none 0 0, .slice none 0 0, .slice none 0 0, .slice none 0 0, .slice none 0 0, .slice none 0 0, .slice none 0 0, .slice none 0 0, .slice none 0 0] 44)).alloc (by simp) (.cells #[.slice none 0 0, .bool true] 56)).trans (HS2.out.below (B := w.heap.size) (by omega) (by simp; omega) (fun k hk => by rw [HBB.out] at hk; cases hk))⟩

set_option maxRecDepth 100000 in
set_option maxHeartbeats 4000000 in
theorem whole_full (w : World) (kind : Int) (name : ByteArray) (rel : Int) (hk : I64 kind) (hrel : I64 rel) (s : ByteArray) (r : Int) (hr : I64 r) (since : Int) (b1 b2 : Bool) (t : ByteArray) (hsi : I64 since) (ar : Int) (d : Nat) (har : I64 ar) (hd : U64 d) (hsz : name.size + 2 * s.size + t.size ≤ 10000) (bi ci bs cs ba ca : Nat) (hbi : ∀ j x, [Value.string s, .int .i64 r][j]? = some x → w.cell? ⟨bi, j, none⟩ = some x) (hbs : ∀ j x, [Value.int .i64 since, .bool b1, .bool b2, .string t, .slice none 0 0, .slice none 0 0][j]? = some x → w.cell? ⟨bs, j, none⟩ = some x) (hba : ∀ j x, [Value.string s, .int .i64 ar, .int .u64 d][j]? = some x → w.cell? ⟨ba, j, none⟩ = some x) :
    Calls Tryz.prog 20 #[.agg #[.int .i64 kind, .string name, .int .i64 rel, .slice (some ⟨bi, 0, none⟩) 1 ci, .slice (some ⟨bs, 0, none⟩) 1 cs, .slice none 0 0, .slice none 0 0, .slice none 0 0, .slice none 0 0, .slice none 0 0, .slice none 0 0, .slice (some ⟨ba, 0, none⟩) 1 ca]] w (HPost w (encObject (encModule kind name rel (enc 1 ++ (encS s.data.toList ++ enc r)) (enc 1 ++ encStruct since b1 b2 t)) (enc 1 ++ (encS s.data.toList ++ (enc ar ++ lb d))))) := by
  have Lbi : bi < w.heap.size := World.block_lt_of_cell? w _ (hbi 0 _ rfl)
  have Cbi := Lib.hid hbi
  clear hbi
  have Abi := Lib.hid (Apart_new (w.alloc (.cells #[.int .i64 kind, .string name, .int .i64 rel, .slice (some ⟨bi, 0, none⟩) 1 ci, .slice (some ⟨bs, 0, none⟩) 1 cs, .slice none 0 0, .slice none 0 0, .slice none 0 0, .slice none 0 0, .slice none 0 0, .slice none 0 0, .slice (some ⟨ba, 0, none⟩) 1 ca] 44)) 56 [.bool true] (k := bi) (by simp; omega))
  have Lbs : bs < w.heap.size := World.block_lt_of_cell? w _ (hbs 0 _ rfl)
  have Cbs := Lib.hid hbs
  clear hbs
  have Abs := Lib.hid (Apart_new (w.alloc (.cells #[.int .i64 kind, .string name, .int .i64 rel, .slice (some ⟨bi, 0, none⟩) 1 ci, .slice (some ⟨bs, 0, none⟩) 1 cs, .slice none 0 0, .slice none 0 0, .slice none 0 0, .slice none 0 0, .slice none 0 0, .slice none 0 0, .slice (some ⟨ba, 0, none⟩) 1 ca] 44)) 56 [.bool true] (k := bs) (by simp; omega))
  have Lba : ba < w.heap.size := World.block_lt_of_cell? w _ (hba 0 _ rfl)
  have Cba := Lib.hid hba
  clear hba
  have Aba := Lib.hid (Apart_new (w.alloc (.cells #[.int .i64 kind, .string name, .int .i64 rel, .slice (some ⟨bi, 0, none⟩) 1 ci, .slice (some ⟨bs, 0, none⟩) 1 cs, .slice none 0 0, .slice none 0 0, .slice none 0 0, .slice none 0 0, .slice none 0 0, .slice none 0 0, .slice (some ⟨ba, 0, none⟩) 1 ca] 44)) 56 [.bool true] (k := ba) (by simp; omega))
  have HM := Lib.hid (Wr_new (w.alloc (.cells #[.int .i64 kind, .string name, .int .i64 rel, .slice (some ⟨bi, 0, none⟩) 1 ci, .slice (some ⟨bs, 0, none⟩) 1 cs, .slice none 0 0, .slice none 0 0, .slice none 0 0, .slice none 0 0, .slice none 0 0, .slice none 0 0, .slice (some ⟨ba, 0, none⟩) 1 ca] 44)) 56 [.bool true])
  have HA := Lib.hid (Apart_new (w.alloc (.cells #[.int .i64 kind, .string name, .int .i64 rel, .slice (some ⟨bi, 0, none⟩) 1 ci, .slice (some ⟨bs, 0, none⟩) 1 cs, .slice none 0 0, .slice none 0 0, .slice none 0 0, .slice none 0 0, .slice none 0 0, .slice none 0 0, .slice (some ⟨ba, 0, none⟩) 1 ca] 44)) 56 [.bool true] (k := w.heap.size) (by simp))
  have HBB := Lib.hid (bufBlock_new (w.alloc (.cells #[.int .i64 kind, .string name, .int .i64 rel, .slice (some ⟨bi, 0, none⟩) 1 ci, .slice (some ⟨bs, 0, none⟩) 1 cs, .slice none 0 0, .slice none 0 0, .slice none 0 0, .slice none 0 0, .slice none 0 0, .slice none 0 0, .slice (some ⟨ba, 0, none⟩) 1 ca] 44)) 56 [.bool true])
  have e1 : (w.alloc (.cells #[.int .i64 kind, .string name, .int .i64 rel, .slice (some ⟨bi, 0, none⟩) 1 ci, .slice (some ⟨bs, 0, none⟩) 1 cs, .slice none 0 0, .slice none 0 0, .slice none 0 0, .slice none 0 0, .slice none 0 0, .slice none 0 0, .slice (some ⟨ba, 0, none⟩) 1 ca] 44)).heap.size = w.heap.size + 1 := by simp
  rw [e1] at HM HA HBB
  rw [e1] at Abi
  rw [e1] at Abs
  rw [e1] at Aba
  clear e1
  go_enter Tryz.func20, Tryz.ntmps20
  go_wp2_with fail
  refine (object_full (w.heap.size + 1) true [] _ HM.out kind name rel hk hrel s r hr since b1 b2 t hsi bi ci bs cs s ar d har hd ba ca (show Short _ [] by unfold Short; simp; omega) (cell_alloc _ (cell_alloc _ (Cbi.out 0 _ rfl))) (cell_alloc _ (cell_alloc _ (Cbi.out 1 _ rfl))) Abi.out (cell_alloc _ (cell_alloc _ (Cbs.out 0 _ rfl))) (cell_alloc _ (cell_alloc _ (Cbs.out 1 _ rfl))) (cell_alloc _ (cell_alloc _ (Cbs.out 2 _ rfl))) (cell_alloc _ (cell_alloc _ (Cbs.out 3 _ rfl))) (cell_alloc _ (cell_alloc _ (Cbs.out 4 _ rfl))) (cell_alloc _ (cell_alloc _ (Cbs.out 5 _ rfl))) Abs.out (cell_alloc _ (cell_alloc _ (Cba.out 0 _ rfl))) (cell_alloc _ (cell_alloc _ (Cba.out 1 _ rfl))) (cell_alloc _ (cell_alloc _ (Cba.out 2 _ rfl))) Aba.out).mono ?_
  rintro e w2 ⟨rfl, hW2, hS2⟩
  rw [List.nil_append] at hW2
  have hlb : 0 < (encObject (encModule kind name rel (enc 1 ++ (encS s.data.toList ++ enc r)) (enc 1 ++ encStruct since b1 b2 t)) (enc 1 ++ (encS s.data.toList ++ (enc ar ++ lb d)))).length := by have := vb_pos (zig kind); unfold encObject encModule enc at *; simp only [List.length_append]; omega
  obtain ⟨g, c, hA2, hc, hRd, hgc⟩ := hW2.at2 hlb
  have HRd := Lib.hid hRd
  have HG : Hid (g < w2.heap.size) := Lib.hid (hA2.2.1.lt g rfl)
  have HS2 := Lib.hid hS2
  clear hW2 hS2 hA2 hRd hlb hgc
  generalize (encObject (encModule kind name rel (enc 1 ++ (encS s.data.toList ++ enc r)) (enc 1 ++ encStruct since b1 b2 t)) (enc 1 ++ (encS s.data.toList ++ (enc ar ++ lb d)))) = body at *
  go_wp2_with fail
  go_ret
  exact ⟨g, c, rfl, HRd.out, HG.out, (((Below.refl _ _).alloc (Nat.le_refl _) (.cells #[.int .i64 kind, .string name, .int .i64 rel, .slice (some ⟨bi, 0, none⟩) 1 ci, .slice (some ⟨bs, 0, none⟩) 1 cs, .slice none 0 0, .slice none 0 0, .slice none 0 0, .slice none 0 0, .slice none 0 0, .slice none 0 0, .slice (some ⟨ba, 0, none⟩) 1 ca] 44)).alloc (by simp) (.cells #[.slice none 0 0, .bool true] 56)).trans (HS2.out.below (B := w.heap.size) (by omega) (by simp; omega) (fun k hk => by rw [HBB.out] at hk; cases hk))⟩

end Go.Proofs.YtgliaafiompilabGreatDoor

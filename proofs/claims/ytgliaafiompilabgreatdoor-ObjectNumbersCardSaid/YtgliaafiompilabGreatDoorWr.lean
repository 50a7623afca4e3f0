/- A writer behind a pointer: what it holds, what a call on it may change, and the append as a step of a walk. Conditions: fewer than 2^46 bytes. -/
import Derived.Test.YtgliaafiompilabGreatDoorBuf
import Derived.Deep.RegionLaw
namespace Go.Proofs.YtgliaafiompilabGreatDoor
open Go Go.RowKit Go.Lib

/-- Block p is a writer that has written l; tl: its other fields. -/
def Wr (w : World) (T e : TypeId) (tl : List Value) (p : Nat) (l : List UInt8) : Prop :=
  ∃ v, w.heap[p]? = some (.cells (v :: tl).toArray T (0, 0)) ∧ Buf w e v l ∧ v.ownBlock ≠ some p

/-- The block of the bytes of a writer. -/
def bufBlock (w : World) (p : Nat) : Option Nat :=
  match w.cell? ⟨p, 0, none⟩ with
  | some v => v.ownBlock
  | none => none

/-- From w to w' the writer p alone has been written to. -/
structure Step (p : Nat) (w w' : World) : Prop where
  os : w'.os = w.os
  tape : w'.tape = w.tape
  output : w'.output = w.output
  size : w.heap.size ≤ w'.heap.size
  block : ∀ k, k < w.heap.size → k ≠ p → some k ≠ bufBlock w p → w'.heap[k]? = w.heap[k]? ∧ some k ≠ bufBlock w' p

theorem Step.refl (p : Nat) (w : World) : Step p w w := ⟨rfl, rfl, rfl, Nat.le_refl _, fun _ _ _ h => ⟨rfl, h⟩⟩

theorem Step.trans {p : Nat} {a b c : World} (h : Step p a b) (g : Step p b c) : Step p a c :=
  ⟨g.os.trans h.os, g.tape.trans h.tape, g.output.trans h.output, Nat.le_trans h.size g.size, fun k hk hp hb => by
    obtain ⟨h1, h2⟩ := h.block k hk hp hb
    obtain ⟨h3, h4⟩ := g.block k (Nat.lt_of_lt_of_le hk h.size) hp h2
    exact ⟨h3.trans h1, h4⟩⟩

theorem cell0_of {w : World} {p : Nat} {T : TypeId} {v : Value} {tl : List Value} {mk : Nat × Nat} (h : w.heap[p]? = some (.cells (v :: tl).toArray T mk)) : w.cell? ⟨p, 0, none⟩ = some v := by
  rw [cell_of_row w p 0 _ T mk h]; simp

theorem bufBlock_of {w : World} {p : Nat} {T : TypeId} {v : Value} {tl : List Value} {mk : Nat × Nat} (h : w.heap[p]? = some (.cells (v :: tl).toArray T mk)) : bufBlock w p = v.ownBlock := by
  unfold bufBlock
  rw [cell0_of h]

theorem Wr.lt {w : World} {T e : TypeId} {tl : List Value} {p : Nat} {l : List UInt8} (h : Wr w T e tl p l) : p < w.heap.size := by
  obtain ⟨v, hp, _⟩ := h
  exact (Array.getElem?_eq_some_iff.1 hp).1

theorem Wr.buf_lt {w : World} {T e : TypeId} {tl : List Value} {p : Nat} {l : List UInt8} (h : Wr w T e tl p l) : ∀ k, bufBlock w p = some k → k < w.heap.size := by
  obtain ⟨v, hp, hb, _⟩ := h
  intro k hk
  rw [bufBlock_of hp] at hk
  exact hb.lt k hk

/-- What is known of the writer's block, of its marks. -/
theorem Wr.opened {w : World} {T e : TypeId} {tl : List Value} {p : Nat} {l : List UInt8} (h : Wr w T e tl p l) :
    ∃ a n c, w.heap[p]? = some (.cells (Value.slice a n c :: tl).toArray T (0, 0)) ∧ Buf w e (.slice a n c) l ∧ (Value.slice a n c).ownBlock ≠ some p ∧ w.cell? ⟨p, 0, none⟩ = some (.slice a n c) ∧ w.frozen? ⟨p, 0, none⟩ = false := by
  obtain ⟨v, hp, hb, hn⟩ := h
  obtain ⟨a, n, c, rfl⟩ := hb.slice
  refine ⟨a, n, c, hp, hb, hn, cell0_of hp, ?_⟩
  simp [World.frozen?, hp]

/-- A writer stays while its blocks stay. -/
theorem Wr.kept {w w' : World} {T e : TypeId} {tl : List Value} {p : Nat} {l : List UInt8} (h : Wr w T e tl p l) (hp : w'.heap[p]? = w.heap[p]?) (hk : ∀ k, bufBlock w p = some k → w'.heap[k]? = w.heap[k]?) : Wr w' T e tl p l := by
  obtain ⟨v, h1, h2, h3⟩ := h
  refine ⟨v, by rw [hp]; exact h1, h2.kept fun k hkk => hk k ?_, h3⟩
  rw [bufBlock_of h1]; exact hkk

/-- A new block. -/
theorem Wr.alloc {w : World} {T e : TypeId} {tl : List Value} {p : Nat} {l : List UInt8} (h : Wr w T e tl p l) (o : Obj) : Wr (w.alloc o) T e tl p l :=
  h.kept (Below.heap_alloc _ _ _ h.lt) fun k hk => Below.heap_alloc _ _ _ (h.buf_lt k hk)

theorem Wr.drew {w : World} {T e : TypeId} {tl : List Value} {p : Nat} {l : List UInt8} (h : Wr w T e tl p l) : Wr w.drew T e tl p l := h

theorem Step.alloc {w : World} {p : Nat} (hp : p < w.heap.size) (o : Obj) : Step p w (w.alloc o) := by
  refine ⟨rfl, rfl, rfl, by simp, fun k hk _ hb => ⟨Below.heap_alloc _ _ _ hk, ?_⟩⟩
  have : bufBlock (w.alloc o) p = bufBlock w p := by
    unfold bufBlock
    rw [World.cell?_of_block (w := w) (a := ⟨p, 0, none⟩) (Below.heap_alloc _ _ _ hp)]
  rw [this]; exact hb

theorem Step.drew {w : World} {p : Nat} : Step p w w.drew := ⟨rfl, rfl, rfl, Nat.le_refl _, fun _ _ _ h => ⟨rfl, h⟩⟩

/-- A store into another block. -/
theorem Step.cell {p : Nat} {w w' : World} (h : Step p w w') {k : Nat} (hk : k < w.heap.size) (hp : k ≠ p) (hb : some k ≠ bufBlock w p) (o : Nat) : w'.cell? ⟨k, o, none⟩ = w.cell? ⟨k, o, none⟩ :=
  World.cell?_of_block (w := w) (a := ⟨k, o, none⟩) (h.block k hk hp hb).1

/-- Behind an append to the writer's bytes and the store of what it gave. -/
theorem Wr.stored {w w1 : World} {T e : TypeId} {tl : List Value} {p : Nat} {l l' : List UInt8} {v v' : Value}
    (hp : w.heap[p]? = some (.cells (v :: tl).toArray T (0, 0))) (hb : Buf w e v l) (hn : v.ownBlock ≠ some p)
    (hb' : Buf w1 e v' l') (hg : w.grownBy w1 v.ownBlock) (ho : v'.ownBlock = v.ownBlock ∨ v'.ownBlock = some w.heap.size) :
    Wr (w1.setCell ⟨p, 0, none⟩ v') T e tl p l' ∧ Step p w (w1.setCell ⟨p, 0, none⟩ v') := by
  have hpl : p < w.heap.size := (Array.getElem?_eq_some_iff.1 hp).1
  have hp1 : w1.heap[p]? = some (.cells (v :: tl).toArray T (0, 0)) := by
    rw [hg.block p hpl (fun h => hn h.symm)]; exact hp
  have hnp : v'.ownBlock ≠ some p := by
    rcases ho with ho | ho
    · rw [ho]; exact hn
    · rw [ho]; intro h; simp at h; omega
  have hp2 : (w1.setCell ⟨p, 0, none⟩ v').heap[p]? = some (.cells (v' :: tl).toArray T (0, 0)) := by
    simp only [World.setCell, Array.getElem?_modify, hp1]
    simp
  refine ⟨⟨v', hp2, hb'.kept fun k hk => Below.heap_setCell _ _ _ _ (by intro h; exact hnp (by rw [hk, h])), hnp⟩, ?_⟩
  refine ⟨hg.os, hg.tape, hg.output, by simp [World.setCell]; exact hg.size, fun k hk hkp hkb => ⟨?_, ?_⟩⟩
  · rw [Below.heap_setCell _ _ _ _ (by exact hkp)]
    rw [bufBlock_of hp] at hkb
    exact hg.block k hk hkb
  · rw [bufBlock_of hp2]
    rw [bufBlock_of hp] at hkb
    rcases ho with ho | ho
    · rw [ho]; exact hkb
    · rw [ho]; intro h; simp at h; omega

/-- The writer p, with the very value in its first field. -/
def WrAt (w : World) (T e : TypeId) (tl : List Value) (p : Nat) (l : List UInt8) (v : Value) : Prop :=
  w.heap[p]? = some (.cells (v :: tl).toArray T (0, 0)) ∧ Buf w e v l ∧ v.ownBlock ≠ some p

theorem Wr.value {w : World} {T e : TypeId} {tl : List Value} {p : Nat} {l : List UInt8} (h : Wr w T e tl p l) :
    ∃ a n c, WrAt w T e tl p l (.slice a n c) ∧ w.cell? ⟨p, 0, none⟩ = some (.slice a n c) ∧ w.frozen? ⟨p, 0, none⟩ = false := by
  obtain ⟨a, n, c, h1, h2, h3, h4, h5⟩ := h.opened
  exact ⟨a, n, c, ⟨h1, h2, h3⟩, h4, h5⟩

theorem WrAt.wr {w : World} {T e : TypeId} {tl : List Value} {p : Nat} {l : List UInt8} {v : Value} (h : WrAt w T e tl p l v) : Wr w T e tl p l := ⟨v, h⟩

theorem WrAt.lt {w : World} {T e : TypeId} {tl : List Value} {p : Nat} {l : List UInt8} {v : Value} (h : WrAt w T e tl p l v) : p < w.heap.size := h.wr.lt

theorem WrAt.alloc {w : World} {T e : TypeId} {tl : List Value} {p : Nat} {l : List UInt8} {v : Value} (h : WrAt w T e tl p l v) (o : Obj) : WrAt (w.alloc o) T e tl p l v :=
  ⟨by rw [Below.heap_alloc _ _ _ h.lt]; exact h.1, h.2.1.kept fun k hk => Below.heap_alloc _ _ _ (h.2.1.lt k hk), h.2.2⟩

theorem WrAt.drew {w : World} {T e : TypeId} {tl : List Value} {p : Nat} {l : List UInt8} {v : Value} (h : WrAt w T e tl p l v) : WrAt w.drew T e tl p l v := h

theorem bufBlock_alloc {w : World} {p : Nat} (hp : p < w.heap.size) (o : Obj) : bufBlock (w.alloc o) p = bufBlock w p := by
  unfold bufBlock
  rw [World.cell?_of_block (w := w) (a := ⟨p, 0, none⟩) (Below.heap_alloc _ _ _ hp)]

/-- Block k is none of the writer's. -/
def Apart (p : Nat) (w : World) (k : Nat) : Prop := k < w.heap.size ∧ k ≠ p ∧ some k ≠ bufBlock w p

theorem Apart.alloc {p k : Nat} {w : World} (h : Apart p w k) (hp : p < w.heap.size) (o : Obj) : Apart p (w.alloc o) k :=
  ⟨by have := h.1; simp; omega, h.2.1, by rw [bufBlock_alloc hp]; exact h.2.2⟩

/-- A new block is none of the writer's. -/
theorem Wr.apart {w : World} {T e : TypeId} {tl : List Value} {p : Nat} {l : List UInt8} (h : Wr w T e tl p l) (o : Obj) : Apart p (w.alloc o) w.heap.size :=
  ⟨by simp, by have := h.lt; omega, by rw [bufBlock_alloc h.lt]; intro e; exact absurd (h.buf_lt _ e.symm) (Nat.lt_irrefl _)⟩

theorem Step.apart {p k : Nat} {w w' : World} (h : Step p w w') (ha : Apart p w k) : Apart p w' k :=
  ⟨Nat.lt_of_lt_of_le ha.1 h.size, ha.2.1, (h.block k ha.1 ha.2.1 ha.2.2).2⟩

theorem Step.cellA {p k : Nat} {w w' : World} (h : Step p w w') (ha : Apart p w k) : ∀ o, w'.cell? ⟨k, o, none⟩ = w.cell? ⟨k, o, none⟩ :=
  fun o => World.cell?_of_block (w := w) (a := ⟨k, o, none⟩) (h.block k ha.1 ha.2.1 ha.2.2).1

theorem Step.heapA {p k : Nat} {w w' : World} (h : Step p w w') (ha : Apart p w k) : w'.heap[k]? = w.heap[k]? := (h.block k ha.1 ha.2.1 ha.2.2).1

/-- What a call of a writer's function comes to. -/
def WPost (w : World) (T : TypeId) (tl : List Value) (p : Nat) (l : List UInt8) (e : Ending) (w' : World) : Prop :=
  e = .returned (.tuple #[]) ∧ Wr w' T 5 tl p l ∧ Step p w w'

/-- Behind an append and the store of what it gave: the facts that a walk wants. -/
theorem WrAt.grown {w w1 : World} {T e : TypeId} {tl : List Value} {p : Nat} {l l' : List UInt8} {v v' : Value} (h : WrAt w T e tl p l v)
    (hb' : Buf w1 e v' l') (hg : w.grownBy w1 v.ownBlock) (ho : v'.ownBlock = v.ownBlock ∨ v'.ownBlock = some w.heap.size) :
    w1.cell? ⟨p, 0, none⟩ = some v ∧ w1.frozen? ⟨p, 0, none⟩ = false ∧ Wr (w1.setCell ⟨p, 0, none⟩ v') T e tl p l' ∧ Step p w (w1.setCell ⟨p, 0, none⟩ v') := by
  have hp1 : w1.heap[p]? = some (.cells (v :: tl).toArray T (0, 0)) := by
    rw [hg.block p h.lt (fun e => h.2.2 e.symm)]; exact h.1
  obtain ⟨h1, h2⟩ := Wr.stored h.1 h.2.1 h.2.2 hb' hg ho
  exact ⟨cell0_of hp1, by simp [World.frozen?, hp1], h1, h2⟩

/-- What an append to a writer, and the store behind it, come to. -/
def Grew (w w1 : World) (T e : TypeId) (tl : List Value) (p : Nat) (l' : List UInt8) (v' : Value) : Prop :=
  Wr (w1.setCell ⟨p, 0, none⟩ v') T e tl p l' ∧ Step p w (w1.setCell ⟨p, 0, none⟩ v')

theorem one_new (w : World) (e : TypeId) (v : Value) (x : UInt8) (h : v = bv x) : ∀ j u, ([x].map bv)[j]? = some u → (w.alloc (.cells #[v] e)).cell? ((⟨w.heap.size, 0, none⟩ : Addr).add j) = some u := by
  intro j u hu
  rw [addr_add]
  cases j with
  | zero =>
    simp at hu
    rw [cell_of_row _ w.heap.size 0 #[v] e (0, 0) (heap_alloc_new w _), h, ← hu]
    rfl
  | succ j => simp at hu

section
variable {P : Program} (w : World)

theorem wpList_append_wr {ops : Array Oper} {rest : List Oper} {o : Oper} {a : Act} {Q : Exit → Act → World → Prop} (hgd : o.guard = none) (s x : Operand) (t : TypeId)
    (ho : o.op = .call { callee := .builtin .append, args := #[s, x], argTypes := #[t, t] })
    (e : TypeId) (i : TypeInfo) (ht : P.underlying t = some (.slice e)) (hi : P.info? e = some i) (hz : i.zero = some (.int .u8 0)) (hsize : i.size = 1) (hby : i.bytes = 1)
    (T : TypeId) (tl : List Value) (p : Nat) (l : List UInt8) (va : Option Addr) (vn vc : Nat) (hs : a.eval s = .slice va vn vc) (hb : WrAt w T e tl p l (.slice va vn vc))
    (ad : Addr) (m c : Nat) (news : List UInt8) (hx : a.eval x = .slice (some ad) m c) (hl : news.length = m) (hm : 0 < m) (hnews : ∀ j u, (news.map bv)[j]? = some u → w.cell? (ad.add j) = some u)
    (hlen : l.length + m ≤ 70368744177664)
    (h : ∀ va' vn' vc' w', w'.cell? ⟨p, 0, none⟩ = some (.slice va vn vc) → w'.frozen? ⟨p, 0, none⟩ = false → Grew w w' T e tl p (l ++ news) (.slice va' vn' vc') → wpList P ops Q rest (a.put o.dst (.slice va' vn' vc')) w') : wpList P ops Q (o :: rest) a w := by
  refine wpList_plain hgd fun _ hK => ?_
  obtain ⟨v', w', hr, h2, h3, h4⟩ := run_append_buf (P := P) w t o.type e i ht hi hz hsize hby _ l hb.2.1 ad m c news hl hm hnews hlen
  obtain ⟨va', vn', vc', rfl⟩ := h2.slice
  obtain ⟨g1, g2, g3, g4⟩ := hb.grown h2 h3 h4
  unfold Oper.wp execOp
  simp only [ho, resolve, invoke, builtin, Sem.run_bind, Sem.run_pure, Result.andThen_ok, List.map_toArray, List.map_cons, List.map_nil, hs, hx, hr]
  exact hK _ _ (h va' vn' vc' w' g1 g2 ⟨g3, g4⟩)

/-- The same, in a region that draws its order. -/
theorem step_append_wr {ops : Array Oper} {o : Oper} {a : Act} {K : Act → World → Prop} {Q : Exit → Act → World → Prop} {E : Prop} (hgd : o.guard = none) (s x : Operand) (t : TypeId)
    (ho : o.op = .call { callee := .builtin .append, args := #[s, x], argTypes := #[t, t] })
    (e : TypeId) (i : TypeInfo) (ht : P.underlying t = some (.slice e)) (hi : P.info? e = some i) (hz : i.zero = some (.int .u8 0)) (hsize : i.size = 1) (hby : i.bytes = 1)
    (T : TypeId) (tl : List Value) (p : Nat) (l : List UInt8) (va : Option Addr) (vn vc : Nat) (hs : a.eval s = .slice va vn vc) (hb : WrAt w T e tl p l (.slice va vn vc))
    (ad : Addr) (m c : Nat) (news : List UInt8) (hx : a.eval x = .slice (some ad) m c) (hl : news.length = m) (hm : 0 < m) (hnews : ∀ j u, (news.map bv)[j]? = some u → w.cell? (ad.add j) = some u)
    (hlen : l.length + m ≤ 70368744177664)
    (h : ∀ va' vn' vc' w', w'.cell? ⟨p, 0, none⟩ = some (.slice va vn vc) → w'.frozen? ⟨p, 0, none⟩ = false → Grew w w' T e tl p (l ++ news) (.slice va' vn' vc') → K (a.put o.dst (.slice va' vn' vc')) w') :
    if Region.wanted o (yielded ops a.tmps) = true then Oper.wp P o a w K Q else E := by
  have hw : Region.wanted o (yielded ops a.tmps) = true := by simp [Region.wanted, hgd]
  rw [if_pos hw]
  obtain ⟨v', w', hr, h2, h3, h4⟩ := run_append_buf (P := P) w t o.type e i ht hi hz hsize hby _ l hb.2.1 ad m c news hl hm hnews hlen
  obtain ⟨va', vn', vc', rfl⟩ := h2.slice
  obtain ⟨g1, g2, g3, g4⟩ := hb.grown h2 h3 h4
  unfold Oper.wp execOp
  simp only [ho, resolve, invoke, builtin, Sem.run_bind, Sem.run_pure, Result.andThen_ok, List.map_toArray, List.map_cons, List.map_nil, hs, hx, hr]
  exact h va' vn' vc' w' g1 g2 ⟨g3, g4⟩

theorem wpList_append_wr_str {ops : Array Oper} {rest : List Oper} {o : Oper} {a : Act} {Q : Exit → Act → World → Prop} (hgd : o.guard = none) (s x : Operand) (t u : TypeId)
    (ho : o.op = .call { callee := .builtin .append, args := #[s, x], argTypes := #[t, u] })
    (e : TypeId) (i : TypeInfo) (ht : P.underlying t = some (.slice e)) (hu : P.underlying u = some .string) (hi : P.info? e = some i) (hz : i.zero = some (.int .u8 0)) (hsize : i.size = 1) (hby : i.bytes = 1)
    (T : TypeId) (tl : List Value) (p : Nat) (l : List UInt8) (va : Option Addr) (vn vc : Nat) (hs : a.eval s = .slice va vn vc) (hb : WrAt w T e tl p l (.slice va vn vc))
    (str : ByteArray) (hx : a.eval x = .string str) (hlen : l.length + str.size ≤ 70368744177664)
    (h : ∀ va' vn' vc' w', w'.cell? ⟨p, 0, none⟩ = some (.slice va vn vc) → w'.frozen? ⟨p, 0, none⟩ = false → Grew w w' T e tl p (l ++ str.data.toList) (.slice va' vn' vc') → wpList P ops Q rest (a.put o.dst (.slice va' vn' vc')) w') : wpList P ops Q (o :: rest) a w := by
  refine wpList_plain hgd fun _ hK => ?_
  obtain ⟨v', w', hr, h2, h3, h4⟩ := run_append_buf_str (P := P) w t u o.type e i ht hu hi hz hsize hby _ l hb.2.1 str hlen
  obtain ⟨va', vn', vc', rfl⟩ := h2.slice
  obtain ⟨g1, g2, g3, g4⟩ := hb.grown h2 h3 h4
  unfold Oper.wp execOp
  simp only [ho, resolve, invoke, builtin, Sem.run_bind, Sem.run_pure, Result.andThen_ok, List.map_toArray, List.map_cons, List.map_nil, hs, hx, hr]
  exact hK _ _ (h va' vn' vc' w' g1 g2 ⟨g3, g4⟩)
end
end Go.Proofs.YtgliaafiompilabGreatDoor

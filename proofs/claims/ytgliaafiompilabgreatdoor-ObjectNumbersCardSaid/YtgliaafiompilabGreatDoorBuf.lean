/- What an append does to a byte buffer of a writer: it holds the bytes that it held, and those behind them. Conditions: fewer than 2^46 bytes. -/
import Derived.WalkKit
import Derived.Lib.AppendStr
namespace Go.Proofs.YtgliaafiompilabGreatDoor
open Go Go.RowKit Go.Lib

/-- A byte as a value. -/
def bv (c : UInt8) : Value := .int .u8 c.toNat

/-- The value v is a slice of bytes that holds l: nil, or it begins at the head of a block; where the block is marked it is full. -/
def Buf (w : World) (e : TypeId) (v : Value) (l : List UInt8) : Prop :=
  (v = .slice none 0 0 ∧ l = []) ∨
  ∃ g cap cur mk, v = .slice (some ⟨g, 0, none⟩) l.length cap ∧ w.heap[g]? = some (.cells cur e mk) ∧ l.length ≤ cap ∧ cap ≤ maxLen ∧ cur.size = cap ∧ cur.toList.take l.length = l.map bv ∧ (mk = (0, 0) ∨ l.length = cap)

theorem Buf.slice {w : World} {e : TypeId} {v : Value} {l : List UInt8} (h : Buf w e v l) : ∃ a n c, v = .slice a n c := by
  rcases h with ⟨rfl, _⟩ | ⟨g, cap, cur, mk, rfl, _⟩
  · exact ⟨_, _, _, rfl⟩
  · exact ⟨_, _, _, rfl⟩

theorem Buf.lt {w : World} {e : TypeId} {v : Value} {l : List UInt8} (h : Buf w e v l) : ∀ k, v.ownBlock = some k → k < w.heap.size := by
  intro k hk
  rcases h with ⟨rfl, _⟩ | ⟨g, cap, cur, mk, rfl, hg, _⟩
  · simp [Value.ownBlock] at hk
  · simp [Value.ownBlock] at hk
    subst hk
    exact (Array.getElem?_eq_some_iff.1 hg).1

/-- A buffer stays while its block stays. -/
theorem Buf.kept {w w' : World} {e : TypeId} {v : Value} {l : List UInt8} (h : Buf w e v l) (hk : ∀ k, v.ownBlock = some k → w'.heap[k]? = w.heap[k]?) : Buf w' e v l := by
  rcases h with hn | ⟨g, cap, cur, mk, rfl, hg, r⟩
  · exact .inl hn
  · exact .inr ⟨g, cap, cur, mk, rfl, by rw [hk g rfl]; exact hg, r⟩

theorem addr_add (g j : Nat) : (⟨g, 0, none⟩ : Addr).add j = ⟨g, j, none⟩ := by
  unfold Addr.add; split <;> simp_all

/-- The cells of a buffer. -/
theorem Buf.cells {w : World} {e : TypeId} {v : Value} {l : List UInt8} (h : Buf w e v l) {g : Nat} (hg : v.ownBlock = some g) : ∀ j u, (l.map bv)[j]? = some u → w.cell? ⟨g, j, none⟩ = some u := by
  intro j u hu
  rcases h with ⟨rfl, _⟩ | ⟨g', cap, cur, mk, rfl, hgg, _, _, _, htake, _⟩
  · simp [Value.ownBlock] at hg
  · simp [Value.ownBlock] at hg
    subst hg
    rw [cell_of_row w g' j cur e mk hgg]
    rw [← htake, List.getElem?_take] at hu
    split at hu
    · simpa using hu
    · cases hu

section
variable {P : Program} (w : World)

theorem buf_new (w : World) (e : TypeId) (l : List UInt8) (cap : Nat) (zs : Array Value) (hz : zs.size = cap - l.length) (hc : l.length ≤ cap) (hm : cap ≤ maxLen) (xs : Array Value) (hx : xs.toList = l.map bv) :
    Buf (w.drew.alloc (.cells (xs ++ zs) e)) e (.slice (some ⟨w.heap.size, 0, none⟩) l.length cap) l := by
  refine .inr ⟨w.heap.size, cap, _, (0, 0), rfl, heap_alloc_new w.drew _, hc, hm, ?_, ?_, .inl rfl⟩
  · have : xs.size = l.length := by rw [← Array.length_toList, hx, List.length_map]
    rw [Array.size_append, hz, this]; omega
  · rw [Array.toList_append, hx]
    have : l.length = (l.map bv).length := (List.length_map _).symm
    rw [this]
    exact List.take_left

theorem grown_new (w : World) (o : Obj) (row : Option Nat) : w.grownBy (w.drew.alloc o) row :=
  ⟨rfl, rfl, rfl, by simp, fun k hk _ => Below.heap_alloc w.drew o k hk⟩

/-- 'append(b, x...)', x a slice of bytes that are known. -/
theorem run_append_buf (t ty e : TypeId) (i : TypeInfo) (ht : P.underlying t = some (.slice e)) (hi : P.info? e = some i) (hz : i.zero = some (.int .u8 0)) (hsize : i.size = 1) (hby : i.bytes = 1)
    (v : Value) (l : List UInt8) (h : Buf w e v l)
    (a : Addr) (m c : Nat) (news : List UInt8) (hl : news.length = m) (hm : 0 < m) (hnews : ∀ j u, (news.map bv)[j]? = some u → w.cell? (a.add j) = some u)
    (hb : l.length + m ≤ 70368744177664) :
    ∃ v' w', (Builtin.append_ #[t, t] ty #[v, .slice (some a) m c]).run P w = .ok v' w' ∧ Buf w' e v' (l ++ news) ∧ w.grownBy w' v.ownBlock ∧
      (v'.ownBlock = v.ownBlock ∨ v'.ownBlock = some w.heap.size) := by
  have hml : l.length + m ≤ maxLen := by simp only [maxLen]; omega
  have hll : (l ++ news).length = l.length + m := by simp [hl]
  have h1 : ∀ u ∈ news.map bv, u.oneCell' = true := by
    intro u hu
    obtain ⟨x, _, rfl⟩ := List.mem_map.1 hu
    rfl
  have hln : (news.map bv).length = m * i.size := by simp [hl, hsize]
  rcases h with ⟨rfl, rfl⟩ | ⟨g, cap, cur, mk, rfl, hg, hnc, hcm, hcs, htake, hmk⟩
  · have hr := run_append_nil (P := P) w t ty e i _ ht hi hz a m c (news.map bv) hln hnews hm (by omega) (by rw [hby]; omega)
    have hge := grownCap_ge w m 0 e
    have hcm : grownCap w m 0 e ≤ maxLen := grownCap_le_maxLen w m 0 e (by simpa using hml)
    refine ⟨_, _, hr, ?_, grown_new w _ _, .inr rfl⟩
    have := buf_new w e news (grownCap w m 0 e) (Builtin.zeroCells (Value.int .u8 0).cells (grownCap w m 0 e - m)) (by rw [size_zeroCells, hl]; simp [Value.cells]) (by omega) hcm (news.map bv).toArray (by simp)
    rw [hl] at this
    simpa using this
  · by_cases hroom : l.length + m ≤ cap
    · have hmk0 : mk = (0, 0) := by rcases hmk with hmk | hmk; exact hmk; omega
      subst hmk0
      have hfit : l.length * i.size + (news.map bv).length ≤ cur.size := by rw [hln, hcs, hsize]; omega
      have hr := run_append_room (P := P) w t ty e i ht hi g l.length cap cur hg a m c (news.map bv) hln hnews h1 hroom hfit
      refine ⟨_, _, hr, .inr ⟨g, cap, _, (0, 0), by rw [hll], setRow_heap w g cur _ e _ hg, by omega, hcm, ?_, ?_, .inl rfl⟩, ⟨rfl, rfl, rfl, by simp, fun k _ hk => setRow_other w g k _ (fun e => hk (by simp [Value.ownBlock, e]))⟩, .inl rfl⟩
      · simp only [List.size_toArray, List.length_append, List.length_take, List.length_drop, Array.length_toList, List.length_map, hl]
        rw [hsize]; omega
      · rw [hsize, Nat.mul_one, htake, ← List.map_append]
        have e1 : (l ++ news).length = ((l ++ news).map bv).length := (List.length_map _).symm
        rw [e1]
        exact List.take_left
    · have holds : ∀ j u, (l.map bv)[j]? = some u → w.cell? ((⟨g, 0, none⟩ : Addr).add j) = some u := by
        intro j u hu
        rw [addr_add]
        exact Buf.cells (.inr ⟨g, cap, cur, mk, rfl, hg, hnc, hcm, hcs, htake, hmk⟩) rfl j u hu
      have hr := run_append_grow (P := P) w t ty e i _ ht hi hz ⟨g, 0, none⟩ l.length cap (l.map bv) (by simp [hsize]) holds a m c (news.map bv) hln hnews (by omega) (by omega) (growslice_fits (by omega) (by rw [hby]; omega))
      have hge := grownCap_ge w (l.length + m) cap e
      have hcm' : grownCap w (l.length + m) cap e ≤ maxLen := grownCap_le_maxLen w (l.length + m) cap e hml
      refine ⟨_, _, hr, ?_, grown_new w _ _, .inr rfl⟩
      have := buf_new w e (l ++ news) (grownCap w (l.length + m) cap e) (Builtin.zeroCells (Value.int .u8 0).cells (grownCap w (l.length + m) cap e - (l.length + m))) (by rw [size_zeroCells, hll]; simp [Value.cells]) (by omega) hcm' ((l.map bv).toArray ++ (news.map bv).toArray) (by simp)
      rw [hll] at this
      exact this

theorem strCells_bv (s : ByteArray) : strCells s = s.data.toList.map bv := rfl

/-- 'append(b, s...)', s a string. -/
theorem run_append_buf_str (t u ty e : TypeId) (i : TypeInfo) (ht : P.underlying t = some (.slice e)) (hu : P.underlying u = some .string) (hi : P.info? e = some i) (hz : i.zero = some (.int .u8 0)) (hsize : i.size = 1) (hby : i.bytes = 1)
    (v : Value) (l : List UInt8) (h : Buf w e v l) (s : ByteArray) (hb : l.length + s.size ≤ 70368744177664) :
    ∃ v' w', (Builtin.append_ #[t, u] ty #[v, .string s]).run P w = .ok v' w' ∧ Buf w' e v' (l ++ s.data.toList) ∧ w.grownBy w' v.ownBlock ∧
      (v'.ownBlock = v.ownBlock ∨ v'.ownBlock = some w.heap.size) := by
  have hss : s.data.toList.length = s.size := Array.length_toList
  have hml : l.length + s.size ≤ maxLen := by simp only [maxLen]; omega
  have hll : (l ++ s.data.toList).length = l.length + s.size := by rw [List.length_append, hss]
  rcases h with ⟨rfl, rfl⟩ | ⟨g, cap, cur, mk, rfl, hg, hnc, hcm, hcs, htake, hmk⟩
  · by_cases h0 : s.size = 0
    · have hs : s.data.toList = [] := List.eq_nil_of_length_eq_zero (by rw [hss]; exact h0)
      have hs2 : s = ⟨#[]⟩ := by
        cases s with
        | mk d => congr 1; exact Array.toList_inj.1 (by simpa using hs)
      subst hs2
      refine ⟨.slice none 0 0, w, ?_, .inl ⟨rfl, rfl⟩, ⟨rfl, rfl, rfl, Nat.le_refl _, fun _ _ _ => rfl⟩, .inl rfl⟩
      simp [Builtin.append_, run_underlying ht, run_underlying hu, sizeOf, typeInfo, hi, Builtin.lenOf, Builtin.firstCells, loadCells, loadCellsFrom, ByteArray.size]
    · have hr := run_append_nil_string (P := P) w t u ty e i _ ht hu hi hz s (by omega) (by omega) (by rw [hby]; omega)
      have hge := grownCap_ge w s.size 0 e
      have hcm : grownCap w s.size 0 e ≤ maxLen := grownCap_le_maxLen w s.size 0 e (by simpa using hml)
      refine ⟨_, _, hr, ?_, grown_new w _ _, .inr rfl⟩
      have := buf_new w e s.data.toList (grownCap w s.size 0 e) (Builtin.zeroCells (Value.int .u8 0).cells (grownCap w s.size 0 e - s.size)) (by rw [size_zeroCells, hss]; simp [Value.cells]) (by omega) hcm (s.data.map (fun b => Value.int .u8 b.toNat)) (by rw [Array.toList_map]; rfl)
      rw [hss] at this
      simpa using this
  · by_cases hroom : l.length + s.size ≤ cap
    · by_cases hmk0 : mk = (0, 0)
      · subst hmk0
        have hr := run_append_room_string (P := P) w t u ty e i ht hu hi hsize g l.length cap cur hg s hroom (by omega)
        refine ⟨_, _, hr, .inr ⟨g, cap, _, (0, 0), by rw [hll], setRow_heap w g cur _ e _ hg, by omega, hcm, ?_, ?_, .inl rfl⟩, ⟨rfl, rfl, rfl, by simp, fun k _ hk => setRow_other w g k _ (fun e => hk (by simp [Value.ownBlock, e]))⟩, .inl rfl⟩
        · simp only [List.size_toArray, List.length_append, List.length_take, List.length_drop, Array.length_toList, strCells_bv, List.length_map, hss]
          omega
        · rw [htake, strCells_bv, ← List.map_append]
          have e1 : (l ++ s.data.toList).length = ((l ++ s.data.toList).map bv).length := (List.length_map _).symm
          rw [e1]
          exact List.take_left
      · have hfull : l.length = cap := by rcases hmk with hmk | hmk; exact absurd hmk hmk0; exact hmk
        have h0 : s.size = 0 := by omega
        have hs : s.data.toList = [] := List.eq_nil_of_length_eq_zero (by rw [hss]; exact h0)
        have hs2 : s = ⟨#[]⟩ := by
          cases s with
          | mk d => congr 1; exact Array.toList_inj.1 (by simpa using hs)
        subst hs2
        refine ⟨.slice (some ⟨g, 0, none⟩) l.length cap, w, ?_, ?_, ⟨rfl, rfl, rfl, Nat.le_refl _, fun _ _ _ => rfl⟩, .inl rfl⟩
        · simp [Builtin.append_, run_underlying ht, run_underlying hu, sizeOf, typeInfo, hi, Builtin.lenOf, Builtin.firstCells, loadCells, loadCellsFrom, ByteArray.size, storeCells, hnc]
        · rw [hs, List.append_nil]
          exact .inr ⟨g, cap, cur, mk, rfl, hg, hnc, hcm, hcs, htake, hmk⟩
    · have holds : ∀ j u, (l.map bv)[j]? = some u → w.cell? ((⟨g, 0, none⟩ : Addr).add j) = some u := by
        intro j u hu
        rw [addr_add]
        exact Buf.cells (.inr ⟨g, cap, cur, mk, rfl, hg, hnc, hcm, hcs, htake, hmk⟩) rfl j u hu
      have hr := run_append_grow_string (P := P) w t u ty e i _ ht hu hi hz ⟨g, 0, none⟩ l.length cap (l.map bv) (by simp [hsize]) holds s (by omega) (by omega) (growslice_fits (by omega) (by rw [hby]; omega))
      have hge := grownCap_ge w (l.length + s.size) cap e
      have hcm' : grownCap w (l.length + s.size) cap e ≤ maxLen := grownCap_le_maxLen w (l.length + s.size) cap e hml
      refine ⟨_, _, hr, ?_, grown_new w _ _, .inr rfl⟩
      have := buf_new w e (l ++ s.data.toList) (grownCap w (l.length + s.size) cap e) (Builtin.zeroCells (Value.int .u8 0).cells (grownCap w (l.length + s.size) cap e - (l.length + s.size))) (by rw [size_zeroCells, hll]; simp [Value.cells]) (by omega) hcm' ((l.map bv).toArray ++ (strCells s).toArray) (by simp [strCells_bv])
      rw [hll] at this
      exact this
end
end Go.Proofs.YtgliaafiompilabGreatDoor

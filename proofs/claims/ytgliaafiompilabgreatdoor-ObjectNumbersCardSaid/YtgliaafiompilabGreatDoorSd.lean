/- The walk of the statement itself. -/
import Derived.Test.YtgliaafiompilabGreatDoorSc
namespace Go.Proofs.YtgliaafiompilabGreatDoor
open Go.RowKit Go.Lib

set_option maxRecDepth 100000 in
set_option maxHeartbeats 4000000 in
theorem law_long (w : World) (rl ln dg : Nat) (name : ByteArray) (k : Int) (hs : 200 < name.size) :
    Calls Tryz.prog 3 #[.int .u64 rl, .int .u64 ln, .int .u64 dg, .string name, .int .i64 k] w (RPost w (.bool true)) := by
  go_enter Tryz.func3, Tryz.ntmps3
  go_wp2_with fail
  refine (awake_any w).mono ?_
  rintro e w1 ⟨rfl, hb⟩
  have HB := Lib.hid hb
  clear hb
  go_wp2_with fail
  go_ret
  exact ⟨rfl, HB.out⟩

theorem cells_of {w : World} {b : Nat} {cs : Array Value} {T : TypeId} {mk : Nat × Nat} (h : w.heap[b]? = some (.cells cs T mk)) : ∀ j x, cs.toList[j]? = some x → w.cell? ⟨b, j, none⟩ = some x := by
  intro j x hx
  rw [cell_at h]
  simpa using hx

theorem name_ne (name : ByteArray) : (⟨#[97]⟩ ++ name : ByteArray).toList.isEmpty = false := by
  rw [ByteArray.toList_eq, ByteArray.data_append, Array.toList_append]
  rfl

theorem name_size (name : ByteArray) : (⟨#[97]⟩ ++ name : ByteArray).size = 1 + name.size := by
  rw [ByteArray.size_append]
  rfl

theorem body_full_len (nm s t : ByteArray) (rel r since ar : Int) (b1 b2 : Bool) (d : Nat) (hrel : I64 rel) (hr : I64 r) (hsi : I64 since) (har : I64 ar) (hsz : nm.size + 2 * s.size + t.size ≤ 10000) :
    (encObject (encModule 1 nm rel (enc 1 ++ (encS s.data.toList ++ enc r)) (enc 1 ++ encStruct since b1 b2 t)) (enc 1 ++ (encS s.data.toList ++ (enc ar ++ lb d)))).length ≤ 50000 := by
  have q0 := encModule_le (kind := 1) (name := nm) (imps := enc 1 ++ (encS s.data.toList ++ enc r)) (strs := enc 1 ++ encStruct since b1 b2 t) (by decide) hrel (show I64 (nm.size : Int) from ⟨by omega, by omega⟩)
  have q1 := imps_le (s := s) hr (show I64 (s.size : Int) from ⟨by omega, by omega⟩)
  have q2 := strs_le (s := t) (b1 := b1) (b2 := b2) hsi (show I64 (t.size : Int) from ⟨by omega, by omega⟩)
  have q3 := against_le (s := s) (d := d) (r := ar) har (show I64 (s.size : Int) from ⟨by omega, by omega⟩)
  have q4 := enc0_len
  unfold encObject
  simp only [List.length_append] at *
  omega

set_option maxRecDepth 100000 in
set_option maxHeartbeats 4000000 in
theorem law_short (w : World) (rl ln dg : Nat) (name : ByteArray) (k : Int) (hs : name.size ≤ 200) (hdg : U64 dg) (hk : I64 k) :
    Calls Tryz.prog 3 #[.int .u64 rl, .int .u64 ln, .int .u64 dg, .string name, .int .i64 k] w (RPost w (.bool true)) := by
  have Hr : Hid (I64 (wrap64 (ln : Int))) := ⟨by unfold wrap64; omega, by unfold wrap64; omega⟩
  have Hrel : Hid (I64 ((rl : Int) % 1001)) := ⟨by omega, by omega⟩
  have Har : Hid (I64 (1 + (ln : Int) % 1000)) := ⟨by omega, by omega⟩
  have Hns : Hid (I64 (name.size : Int)) := ⟨by omega, by omega⟩
  have Hnns : Hid (I64 ((⟨#[97]⟩ ++ name : ByteArray).size : Int)) := by rw [name_size]; exact ⟨by omega, by omega⟩
  have Hsz : Hid ((⟨#[97]⟩ ++ name : ByteArray).size + 2 * name.size + name.size ≤ 10000) := Lib.hid (by rw [name_size]; omega)
  have hbl := body_full_len (⟨#[97]⟩ ++ name) name name (↑rl % 1001) (wrap64 ↑ln) k (1 + ↑ln % 1000) false false dg Hrel.out Hr.out hk Har.out Hsz.out
  obtain ⟨M, hM⟩ : ∃ M, (encObject (encModule 1 (⟨#[97]⟩ ++ name) (↑rl % 1001) (enc 1 ++ (encS name.data.toList ++ enc (wrap64 ↑ln))) (enc 1 ++ encStruct k false false name)) (enc 1 ++ (encS name.data.toList ++ (enc (1 + ↑ln % 1000) ++ lb dg)))).length = M := ⟨_, rfl⟩
  obtain ⟨body, hbody⟩ : ∃ body, encObject (encModule 1 (⟨#[97]⟩ ++ name) (↑rl % 1001) (enc 1 ++ (encS name.data.toList ++ enc (wrap64 ↑ln))) (enc 1 ++ encStruct k false false name)) (enc 1 ++ (encS name.data.toList ++ (enc (1 + ↑ln % 1000) ++ lb dg))) = body := ⟨_, rfl⟩
  rw [hM] at hbl
  rw [hbody] at hM
  have HM := Lib.hid hM
  have HBL := Lib.hid hbl
  have HBD := Lib.hid hbody
  have HK := Lib.hid hk
  have HD := Lib.hid hdg
  clear hM hbl hbody hk hdg
  have X1 : Hid ((((((w.alloc (.cells #[.string name, .int .i64 (wrap64 ↑ln)] 25)).alloc (.cells #[.int .i64 k, .bool false, .bool false, .string name, .slice none 0 0, .slice none 0 0] 30)).alloc (.cells #[.int .i64 1, .string (⟨#[97]⟩ ++ name), .int .i64 (↑rl % 1001), .slice (some ⟨w.heap.size, 0, none⟩) 1 1, .slice (some ⟨w.heap.size + 1, 0, none⟩) 1 1, .slice none 0 0, .slice none 0 0, .slice none 0 0, .slice none 0 0] 37)).alloc (.cells #[.string name, .int .i64 (1 + ↑ln % 1000), .int .u64 ↑dg] 39)).alloc (.cells #[.int .i64 1, .string (⟨#[97]⟩ ++ name), .int .i64 (↑rl % 1001), .slice (some ⟨w.heap.size, 0, none⟩) 1 1, .slice (some ⟨w.heap.size + 1, 0, none⟩) 1 1, .slice none 0 0, .slice none 0 0, .slice none 0 0, .slice none 0 0, .slice none 0 0, .slice none 0 0, .slice (some ⟨w.heap.size + 1 + 1 + 1, 0, none⟩) 1 1] 44)).heap[w.heap.size]? = some (.cells #[.string name, .int .i64 (wrap64 ↑ln)] 25)) := ((Below.heap_alloc ((((w.alloc (.cells #[.string name, .int .i64 (wrap64 ↑ln)] 25)).alloc (.cells #[.int .i64 k, .bool false, .bool false, .string name, .slice none 0 0, .slice none 0 0] 30)).alloc (.cells #[.int .i64 1, .string (⟨#[97]⟩ ++ name), .int .i64 (↑rl % 1001), .slice (some ⟨w.heap.size, 0, none⟩) 1 1, .slice (some ⟨w.heap.size + 1, 0, none⟩) 1 1, .slice none 0 0, .slice none 0 0, .slice none 0 0, .slice none 0 0] 37)).alloc (.cells #[.string name, .int .i64 (1 + ↑ln % 1000), .int .u64 ↑dg] 39)) _ _ (by simp <;> omega)).trans ((Below.heap_alloc (((w.alloc (.cells #[.string name, .int .i64 (wrap64 ↑ln)] 25)).alloc (.cells #[.int .i64 k, .bool false, .bool false, .string name, .slice none 0 0, .slice none 0 0] 30)).alloc (.cells #[.int .i64 1, .string (⟨#[97]⟩ ++ name), .int .i64 (↑rl % 1001), .slice (some ⟨w.heap.size, 0, none⟩) 1 1, .slice (some ⟨w.heap.size + 1, 0, none⟩) 1 1, .slice none 0 0, .slice none 0 0, .slice none 0 0, .slice none 0 0] 37)) _ _ (by simp <;> omega)).trans ((Below.heap_alloc ((w.alloc (.cells #[.string name, .int .i64 (wrap64 ↑ln)] 25)).alloc (.cells #[.int .i64 k, .bool false, .bool false, .string name, .slice none 0 0, .slice none 0 0] 30)) _ _ (by simp <;> omega)).trans ((Below.heap_alloc (w.alloc (.cells #[.string name, .int .i64 (wrap64 ↑ln)] 25)) _ _ (by simp)).trans (heap_alloc_new w _)))))
  have X2 : Hid ((((((w.alloc (.cells #[.string name, .int .i64 (wrap64 ↑ln)] 25)).alloc (.cells #[.int .i64 k, .bool false, .bool false, .string name, .slice none 0 0, .slice none 0 0] 30)).alloc (.cells #[.int .i64 1, .string (⟨#[97]⟩ ++ name), .int .i64 (↑rl % 1001), .slice (some ⟨w.heap.size, 0, none⟩) 1 1, .slice (some ⟨w.heap.size + 1, 0, none⟩) 1 1, .slice none 0 0, .slice none 0 0, .slice none 0 0, .slice none 0 0] 37)).alloc (.cells #[.string name, .int .i64 (1 + ↑ln % 1000), .int .u64 ↑dg] 39)).alloc (.cells #[.int .i64 1, .string (⟨#[97]⟩ ++ name), .int .i64 (↑rl % 1001), .slice (some ⟨w.heap.size, 0, none⟩) 1 1, .slice (some ⟨w.heap.size + 1, 0, none⟩) 1 1, .slice none 0 0, .slice none 0 0, .slice none 0 0, .slice none 0 0, .slice none 0 0, .slice none 0 0, .slice (some ⟨w.heap.size + 1 + 1 + 1, 0, none⟩) 1 1] 44)).heap[w.heap.size + 1]? = some (.cells #[.int .i64 k, .bool false, .bool false, .string name, .slice none 0 0, .slice none 0 0] 30)) := by
    have e1 : (w.alloc (.cells #[.string name, .int .i64 (wrap64 ↑ln)] 25)).heap.size = w.heap.size + 1 := by simp
    have h := ((Below.heap_alloc ((((w.alloc (.cells #[.string name, .int .i64 (wrap64 ↑ln)] 25)).alloc (.cells #[.int .i64 k, .bool false, .bool false, .string name, .slice none 0 0, .slice none 0 0] 30)).alloc (.cells #[.int .i64 1, .string (⟨#[97]⟩ ++ name), .int .i64 (↑rl % 1001), .slice (some ⟨w.heap.size, 0, none⟩) 1 1, .slice (some ⟨w.heap.size + 1, 0, none⟩) 1 1, .slice none 0 0, .slice none 0 0, .slice none 0 0, .slice none 0 0] 37)).alloc (.cells #[.string name, .int .i64 (1 + ↑ln % 1000), .int .u64 ↑dg] 39)) (.cells #[.int .i64 1, .string (⟨#[97]⟩ ++ name), .int .i64 (↑rl % 1001), .slice (some ⟨w.heap.size, 0, none⟩) 1 1, .slice (some ⟨w.heap.size + 1, 0, none⟩) 1 1, .slice none 0 0, .slice none 0 0, .slice none 0 0, .slice none 0 0, .slice none 0 0, .slice none 0 0, .slice (some ⟨w.heap.size + 1 + 1 + 1, 0, none⟩) 1 1] 44) (w.alloc (.cells #[.string name, .int .i64 (wrap64 ↑ln)] 25)).heap.size (by simp <;> omega)).trans ((Below.heap_alloc (((w.alloc (.cells #[.string name, .int .i64 (wrap64 ↑ln)] 25)).alloc (.cells #[.int .i64 k, .bool false, .bool false, .string name, .slice none 0 0, .slice none 0 0] 30)).alloc (.cells #[.int .i64 1, .string (⟨#[97]⟩ ++ name), .int .i64 (↑rl % 1001), .slice (some ⟨w.heap.size, 0, none⟩) 1 1, .slice (some ⟨w.heap.size + 1, 0, none⟩) 1 1, .slice none 0 0, .slice none 0 0, .slice none 0 0, .slice none 0 0] 37)) (.cells #[.string name, .int .i64 (1 + ↑ln % 1000), .int .u64 ↑dg] 39) (w.alloc (.cells #[.string name, .int .i64 (wrap64 ↑ln)] 25)).heap.size (by simp)).trans ((Below.heap_alloc ((w.alloc (.cells #[.string name, .int .i64 (wrap64 ↑ln)] 25)).alloc (.cells #[.int .i64 k, .bool false, .bool false, .string name, .slice none 0 0, .slice none 0 0] 30)) (.cells #[.int .i64 1, .string (⟨#[97]⟩ ++ name), .int .i64 (↑rl % 1001), .slice (some ⟨w.heap.size, 0, none⟩) 1 1, .slice (some ⟨w.heap.size + 1, 0, none⟩) 1 1, .slice none 0 0, .slice none 0 0, .slice none 0 0, .slice none 0 0] 37) (w.alloc (.cells #[.string name, .int .i64 (wrap64 ↑ln)] 25)).heap.size (by simp)).trans (heap_alloc_new (w.alloc (.cells #[.string name, .int .i64 (wrap64 ↑ln)] 25)) (.cells #[.int .i64 k, .bool false, .bool false, .string name, .slice none 0 0, .slice none 0 0] 30)))))
    rw [e1] at h
    exact h
  have X4 : Hid ((((((w.alloc (.cells #[.string name, .int .i64 (wrap64 ↑ln)] 25)).alloc (.cells #[.int .i64 k, .bool false, .bool false, .string name, .slice none 0 0, .slice none 0 0] 30)).alloc (.cells #[.int .i64 1, .string (⟨#[97]⟩ ++ name), .int .i64 (↑rl % 1001), .slice (some ⟨w.heap.size, 0, none⟩) 1 1, .slice (some ⟨w.heap.size + 1, 0, none⟩) 1 1, .slice none 0 0, .slice none 0 0, .slice none 0 0, .slice none 0 0] 37)).alloc (.cells #[.string name, .int .i64 (1 + ↑ln % 1000), .int .u64 ↑dg] 39)).alloc (.cells #[.int .i64 1, .string (⟨#[97]⟩ ++ name), .int .i64 (↑rl % 1001), .slice (some ⟨w.heap.size, 0, none⟩) 1 1, .slice (some ⟨w.heap.size + 1, 0, none⟩) 1 1, .slice none 0 0, .slice none 0 0, .slice none 0 0, .slice none 0 0, .slice none 0 0, .slice none 0 0, .slice (some ⟨w.heap.size + 1 + 1 + 1, 0, none⟩) 1 1] 44)).heap[w.heap.size + 1 + 1 + 1]? = some (.cells #[.string name, .int .i64 (1 + ↑ln % 1000), .int .u64 ↑dg] 39)) := by
    have e1 : (((w.alloc (.cells #[.string name, .int .i64 (wrap64 ↑ln)] 25)).alloc (.cells #[.int .i64 k, .bool false, .bool false, .string name, .slice none 0 0, .slice none 0 0] 30)).alloc (.cells #[.int .i64 1, .string (⟨#[97]⟩ ++ name), .int .i64 (↑rl % 1001), .slice (some ⟨w.heap.size, 0, none⟩) 1 1, .slice (some ⟨w.heap.size + 1, 0, none⟩) 1 1, .slice none 0 0, .slice none 0 0, .slice none 0 0, .slice none 0 0] 37)).heap.size = w.heap.size + 1 + 1 + 1 := by simp
    have h := (Below.heap_alloc ((((w.alloc (.cells #[.string name, .int .i64 (wrap64 ↑ln)] 25)).alloc (.cells #[.int .i64 k, .bool false, .bool false, .string name, .slice none 0 0, .slice none 0 0] 30)).alloc (.cells #[.int .i64 1, .string (⟨#[97]⟩ ++ name), .int .i64 (↑rl % 1001), .slice (some ⟨w.heap.size, 0, none⟩) 1 1, .slice (some ⟨w.heap.size + 1, 0, none⟩) 1 1, .slice none 0 0, .slice none 0 0, .slice none 0 0, .slice none 0 0] 37)).alloc (.cells #[.string name, .int .i64 (1 + ↑ln % 1000), .int .u64 ↑dg] 39)) (.cells #[.int .i64 1, .string (⟨#[97]⟩ ++ name), .int .i64 (↑rl % 1001), .slice (some ⟨w.heap.size, 0, none⟩) 1 1, .slice (some ⟨w.heap.size + 1, 0, none⟩) 1 1, .slice none 0 0, .slice none 0 0, .slice none 0 0, .slice none 0 0, .slice none 0 0, .slice none 0 0, .slice (some ⟨w.heap.size + 1 + 1 + 1, 0, none⟩) 1 1] 44) (((w.alloc (.cells #[.string name, .int .i64 (wrap64 ↑ln)] 25)).alloc (.cells #[.int .i64 k, .bool false, .bool false, .string name, .slice none 0 0, .slice none 0 0] 30)).alloc (.cells #[.int .i64 1, .string (⟨#[97]⟩ ++ name), .int .i64 (↑rl % 1001), .slice (some ⟨w.heap.size, 0, none⟩) 1 1, .slice (some ⟨w.heap.size + 1, 0, none⟩) 1 1, .slice none 0 0, .slice none 0 0, .slice none 0 0, .slice none 0 0] 37)).heap.size (by simp)).trans (heap_alloc_new (((w.alloc (.cells #[.string name, .int .i64 (wrap64 ↑ln)] 25)).alloc (.cells #[.int .i64 k, .bool false, .bool false, .string name, .slice none 0 0, .slice none 0 0] 30)).alloc (.cells #[.int .i64 1, .string (⟨#[97]⟩ ++ name), .int .i64 (↑rl % 1001), .slice (some ⟨w.heap.size, 0, none⟩) 1 1, .slice (some ⟨w.heap.size + 1, 0, none⟩) 1 1, .slice none 0 0, .slice none 0 0, .slice none 0 0, .slice none 0 0] 37)) (.cells #[.string name, .int .i64 (1 + ↑ln % 1000), .int .u64 ↑dg] 39))
    rw [e1] at h
    exact h
  have X5 : Hid ((((((w.alloc (.cells #[.string name, .int .i64 (wrap64 ↑ln)] 25)).alloc (.cells #[.int .i64 k, .bool false, .bool false, .string name, .slice none 0 0, .slice none 0 0] 30)).alloc (.cells #[.int .i64 1, .string (⟨#[97]⟩ ++ name), .int .i64 (↑rl % 1001), .slice (some ⟨w.heap.size, 0, none⟩) 1 1, .slice (some ⟨w.heap.size + 1, 0, none⟩) 1 1, .slice none 0 0, .slice none 0 0, .slice none 0 0, .slice none 0 0] 37)).alloc (.cells #[.string name, .int .i64 (1 + ↑ln % 1000), .int .u64 ↑dg] 39)).alloc (.cells #[.int .i64 1, .string (⟨#[97]⟩ ++ name), .int .i64 (↑rl % 1001), .slice (some ⟨w.heap.size, 0, none⟩) 1 1, .slice (some ⟨w.heap.size + 1, 0, none⟩) 1 1, .slice none 0 0, .slice none 0 0, .slice none 0 0, .slice none 0 0, .slice none 0 0, .slice none 0 0, .slice (some ⟨w.heap.size + 1 + 1 + 1, 0, none⟩) 1 1] 44)).heap[w.heap.size + 1 + 1 + 1 + 1]? = some (.cells #[.int .i64 1, .string (⟨#[97]⟩ ++ name), .int .i64 (↑rl % 1001), .slice (some ⟨w.heap.size, 0, none⟩) 1 1, .slice (some ⟨w.heap.size + 1, 0, none⟩) 1 1, .slice none 0 0, .slice none 0 0, .slice none 0 0, .slice none 0 0, .slice none 0 0, .slice none 0 0, .slice (some ⟨w.heap.size + 1 + 1 + 1, 0, none⟩) 1 1] 44)) := by
    have e1 : ((((w.alloc (.cells #[.string name, .int .i64 (wrap64 ↑ln)] 25)).alloc (.cells #[.int .i64 k, .bool false, .bool false, .string name, .slice none 0 0, .slice none 0 0] 30)).alloc (.cells #[.int .i64 1, .string (⟨#[97]⟩ ++ name), .int .i64 (↑rl % 1001), .slice (some ⟨w.heap.size, 0, none⟩) 1 1, .slice (some ⟨w.heap.size + 1, 0, none⟩) 1 1, .slice none 0 0, .slice none 0 0, .slice none 0 0, .slice none 0 0] 37)).alloc (.cells #[.string name, .int .i64 (1 + ↑ln % 1000), .int .u64 ↑dg] 39)).heap.size = w.heap.size + 1 + 1 + 1 + 1 := by simp
    have h := heap_alloc_new ((((w.alloc (.cells #[.string name, .int .i64 (wrap64 ↑ln)] 25)).alloc (.cells #[.int .i64 k, .bool false, .bool false, .string name, .slice none 0 0, .slice none 0 0] 30)).alloc (.cells #[.int .i64 1, .string (⟨#[97]⟩ ++ name), .int .i64 (↑rl % 1001), .slice (some ⟨w.heap.size, 0, none⟩) 1 1, .slice (some ⟨w.heap.size + 1, 0, none⟩) 1 1, .slice none 0 0, .slice none 0 0, .slice none 0 0, .slice none 0 0] 37)).alloc (.cells #[.string name, .int .i64 (1 + ↑ln % 1000), .int .u64 ↑dg] 39)) (.cells #[.int .i64 1, .string (⟨#[97]⟩ ++ name), .int .i64 (↑rl % 1001), .slice (some ⟨w.heap.size, 0, none⟩) 1 1, .slice (some ⟨w.heap.size + 1, 0, none⟩) 1 1, .slice none 0 0, .slice none 0 0, .slice none 0 0, .slice none 0 0, .slice none 0 0, .slice none 0 0, .slice (some ⟨w.heap.size + 1 + 1 + 1, 0, none⟩) 1 1] 44)
    rw [e1] at h
    exact h
  have XB : Hid (Below w.heap.size w (((((w.alloc (.cells #[.string name, .int .i64 (wrap64 ↑ln)] 25)).alloc (.cells #[.int .i64 k, .bool false, .bool false, .string name, .slice none 0 0, .slice none 0 0] 30)).alloc (.cells #[.int .i64 1, .string (⟨#[97]⟩ ++ name), .int .i64 (↑rl % 1001), .slice (some ⟨w.heap.size, 0, none⟩) 1 1, .slice (some ⟨w.heap.size + 1, 0, none⟩) 1 1, .slice none 0 0, .slice none 0 0, .slice none 0 0, .slice none 0 0] 37)).alloc (.cells #[.string name, .int .i64 (1 + ↑ln % 1000), .int .u64 ↑dg] 39)).alloc (.cells #[.int .i64 1, .string (⟨#[97]⟩ ++ name), .int .i64 (↑rl % 1001), .slice (some ⟨w.heap.size, 0, none⟩) 1 1, .slice (some ⟨w.heap.size + 1, 0, none⟩) 1 1, .slice none 0 0, .slice none 0 0, .slice none 0 0, .slice none 0 0, .slice none 0 0, .slice none 0 0, .slice (some ⟨w.heap.size + 1 + 1 + 1, 0, none⟩) 1 1] 44))) := ((((((Below.refl _ _).alloc (Nat.le_refl _) _).alloc (by simp) _).alloc (by simp <;> omega) _).alloc (by simp <;> omega) _).alloc (by simp <;> omega) _)
  have xs : (((((w.alloc (.cells #[.string name, .int .i64 (wrap64 ↑ln)] 25)).alloc (.cells #[.int .i64 k, .bool false, .bool false, .string name, .slice none 0 0, .slice none 0 0] 30)).alloc (.cells #[.int .i64 1, .string (⟨#[97]⟩ ++ name), .int .i64 (↑rl % 1001), .slice (some ⟨w.heap.size, 0, none⟩) 1 1, .slice (some ⟨w.heap.size + 1, 0, none⟩) 1 1, .slice none 0 0, .slice none 0 0, .slice none 0 0, .slice none 0 0] 37)).alloc (.cells #[.string name, .int .i64 (1 + ↑ln % 1000), .int .u64 ↑dg] 39)).alloc (.cells #[.int .i64 1, .string (⟨#[97]⟩ ++ name), .int .i64 (↑rl % 1001), .slice (some ⟨w.heap.size, 0, none⟩) 1 1, .slice (some ⟨w.heap.size + 1, 0, none⟩) 1 1, .slice none 0 0, .slice none 0 0, .slice none 0 0, .slice none 0 0, .slice none 0 0, .slice none 0 0, .slice (some ⟨w.heap.size + 1 + 1 + 1, 0, none⟩) 1 1] 44)).heap.size = w.heap.size + 1 + 1 + 1 + 1 + 1 := by simp
  have XS := Lib.hid xs
  clear xs
  go_enter Tryz.func3, Tryz.ntmps3
  go_wp2_with fail
  generalize (((((w.alloc (.cells #[.string name, .int .i64 (wrap64 ↑ln)] 25)).alloc (.cells #[.int .i64 k, .bool false, .bool false, .string name, .slice none 0 0, .slice none 0 0] 30)).alloc (.cells #[.int .i64 1, .string (⟨#[97]⟩ ++ name), .int .i64 (↑rl % 1001), .slice (some ⟨w.heap.size, 0, none⟩) 1 1, .slice (some ⟨w.heap.size + 1, 0, none⟩) 1 1, .slice none 0 0, .slice none 0 0, .slice none 0 0, .slice none 0 0] 37)).alloc (.cells #[.string name, .int .i64 (1 + ↑ln % 1000), .int .u64 ↑dg] 39)).alloc (.cells #[.int .i64 1, .string (⟨#[97]⟩ ++ name), .int .i64 (↑rl % 1001), .slice (some ⟨w.heap.size, 0, none⟩) 1 1, .slice (some ⟨w.heap.size + 1, 0, none⟩) 1 1, .slice none 0 0, .slice none 0 0, .slice none 0 0, .slice none 0 0, .slice none 0 0, .slice none 0 0, .slice (some ⟨w.heap.size + 1 + 1 + 1, 0, none⟩) 1 1] 44)) = X at *
  have C1 := Lib.hid (cells_of X1.out)
  have C2 := Lib.hid (cells_of X2.out)
  have C4 := Lib.hid (cells_of X4.out)
  refine (encode_full X (⟨#[97]⟩ ++ name) (↑rl % 1001) (name_ne name) (by omega) (by omega) name (wrap64 ↑ln) Hr.out k false false name HK.out w.heap.size 1 (w.heap.size + 1) 1 (1 + ↑ln % 1000) dg (by omega) (by omega) HD.out (w.heap.size + 1 + 1 + 1) 1 Hsz.out (C1.out 0 _ rfl) (C1.out 1 _ rfl) (C2.out 0 _ rfl) (C2.out 1 _ rfl) (C2.out 2 _ rfl) (C2.out 3 _ rfl) (C2.out 4 _ rfl) (C2.out 5 _ rfl) (C4.out 0 _ rfl) (C4.out 1 _ rfl) (C4.out 2 _ rfl)).mono ?_
  rintro e w1 ⟨g1, c1, rfl, hRd, hgc, hb⟩
  rw [HBD.out] at hRd hgc ⊢
  have hg1 : g1 < w1.heap.size := World.block_lt_of_cell? w1 _ (hRd 0 (by rw [file_len]; omega))
  have hO1 := cells_of ((hb.block (w.heap.size + 1 + 1 + 1 + 1) (by rw [XS.out]; omega)).trans X5.out)
  have HZ1 : Hid (w.heap.size + 1 + 1 + 1 + 1 < w1.heap.size) := Lib.hid (by have := hb.size; rw [XS.out] at this; omega)
  have HC1 := Lib.hid (fun j x hx => (hb.cell (p := ⟨w.heap.size, j, none⟩) (by have := XS.out; dsimp only; omega)).trans (C1.out j x hx))
  have HC2 := Lib.hid (fun j x hx => (hb.cell (p := ⟨w.heap.size + 1, j, none⟩) (by have := XS.out; dsimp only; omega)).trans (C2.out j x hx))
  have HC4 := Lib.hid (fun j x hx => (hb.cell (p := ⟨w.heap.size + 1 + 1 + 1, j, none⟩) (by have := XS.out; dsimp only; omega)).trans (C4.out j x hx))
  have o1_0 := hO1 0 _ rfl
  have o1_1 := hO1 1 _ rfl
  have o1_2 := hO1 2 _ rfl
  have o1_3 := hO1 3 _ rfl
  have o1_4 := hO1 4 _ rfl
  have o1_5 := hO1 5 _ rfl
  have o1_6 := hO1 6 _ rfl
  have o1_7 := hO1 7 _ rfl
  have o1_8 := hO1 8 _ rfl
  have o1_9 := hO1 9 _ rfl
  have o1_10 := hO1 10 _ rfl
  have o1_11 := hO1 11 _ rfl
  have HO1 := Lib.hid hO1
  have HR1 := Lib.hid hRd
  have HG1 := Lib.hid hg1
  rw [file_len, HM.out] at hgc ⊢
  have HGC := Lib.hid hgc
  have HB1 := Lib.hid (XB.out.trans (hb.mono (by rw [XS.out]; omega)))
  clear hRd hgc hb hg1 hO1 C1 C2 C4
  go_wp2_with fail
  refine (oencode_full w1 (⟨#[97]⟩ ++ name) (↑rl % 1001) (name_ne name) (by omega) (by omega) name (wrap64 ↑ln) Hr.out k false false name HK.out w.heap.size 1 (w.heap.size + 1) 1 (1 + ↑ln % 1000) dg (by omega) (by omega) HD.out (w.heap.size + 1 + 1 + 1) 1 Hsz.out (HC1.out 0 _ rfl) (HC1.out 1 _ rfl) (HC2.out 0 _ rfl) (HC2.out 1 _ rfl) (HC2.out 2 _ rfl) (HC2.out 3 _ rfl) (HC2.out 4 _ rfl) (HC2.out 5 _ rfl) (HC4.out 0 _ rfl) (HC4.out 1 _ rfl) (HC4.out 2 _ rfl)).mono ?_
  rintro e w2 ⟨g2, c2, rfl, hRd, hgc, hb⟩
  rw [HBD.out] at hRd hgc ⊢
  have hg2 : g2 < w2.heap.size := World.block_lt_of_cell? w2 _ (hRd 0 (by rw [file_len]; omega))
  have HZ2 := Lib.hid (Nat.lt_of_lt_of_le HZ1.out hb.size)
  have HD1 := Lib.hid (fun j x hx => (hb.cell (p := ⟨w.heap.size, j, none⟩) (by have := HZ1.out; dsimp only; omega)).trans (HC1.out j x hx))
  have HD2 := Lib.hid (fun j x hx => (hb.cell (p := ⟨w.heap.size + 1, j, none⟩) (by have := HZ1.out; dsimp only; omega)).trans (HC2.out j x hx))
  have HD4 := Lib.hid (fun j x hx => (hb.cell (p := ⟨w.heap.size + 1 + 1 + 1, j, none⟩) (by have := HZ1.out; dsimp only; omega)).trans (HC4.out j x hx))
  have HO2 := Lib.hid (fun j x hx => (hb.cell (p := ⟨w.heap.size + 1 + 1 + 1 + 1, j, none⟩) HZ1.out).trans (HO1.out j x hx))
  have HR12 := Lib.hid (HR1.out.block (hb.block g1 HG1.out))
  have HG12 := Lib.hid (Nat.lt_of_lt_of_le HG1.out hb.size)
  have HR2 := Lib.hid hRd
  have HG2 := Lib.hid hg2
  rw [file_len, HM.out]
  have HB2 := Lib.hid (HB1.out.trans (hb.mono (by have := HZ1.out; omega)))
  clear hRd hgc hb hg2 o1_0 o1_1 o1_2 o1_3 o1_4 o1_5 o1_6 o1_7 o1_8 o1_9 o1_10 o1_11
  go_wp2_with fail
  refine (decode_full w2 g1 c1 M body HM.out HBL.out HGC.out HR12.out (⟨#[97]⟩ ++ name) (↑rl % 1001) (name_ne name) (by omega) (by omega) name Hns.out (wrap64 ↑ln) Hr.out k HK.out false false name Hns.out (1 + ↑ln % 1000) dg (by omega) (by omega) HD.out Hnns.out HBD.out.symm).mono ?_
  rintro e w3 ⟨bi, ci, bs, cs, ba, ca, rfl, hbi, hbs, hba, hb⟩
  have HE1 := Lib.hid (fun j x hx => (hb.cell (p := ⟨w.heap.size, j, none⟩) (by have := HZ2.out; dsimp only; omega)).trans (HD1.out j x hx))
  have HE2 := Lib.hid (fun j x hx => (hb.cell (p := ⟨w.heap.size + 1, j, none⟩) (by have := HZ2.out; dsimp only; omega)).trans (HD2.out j x hx))
  have HE4 := Lib.hid (fun j x hx => (hb.cell (p := ⟨w.heap.size + 1 + 1 + 1, j, none⟩) (by have := HZ2.out; dsimp only; omega)).trans (HD4.out j x hx))
  have hO3 := fun j x hx => (hb.cell (p := ⟨w.heap.size + 1 + 1 + 1 + 1, j, none⟩) HZ2.out).trans (HO2.out j x hx)
  have o3_0 := hO3 0 _ rfl
  have o3_1 := hO3 1 _ rfl
  have o3_2 := hO3 2 _ rfl
  have o3_3 := hO3 3 _ rfl
  have o3_4 := hO3 4 _ rfl
  have o3_5 := hO3 5 _ rfl
  have o3_6 := hO3 6 _ rfl
  have o3_7 := hO3 7 _ rfl
  have o3_8 := hO3 8 _ rfl
  have o3_9 := hO3 9 _ rfl
  have o3_10 := hO3 10 _ rfl
  have o3_11 := hO3 11 _ rfl
  have hz3 : w.heap.size + 1 + 1 + 1 + 1 < w3.heap.size := Nat.lt_of_lt_of_le HZ2.out hb.size
  have HCI := Lib.hid hbi
  have HCS := Lib.hid hbs
  have HCA := Lib.hid hba
  have HR13 := Lib.hid (HR12.out.block (hb.block g1 HG12.out))
  have HR23 := Lib.hid (HR2.out.block (hb.block g2 HG2.out))
  have G13 : g1 < w3.heap.size := Nat.lt_of_lt_of_le HG12.out hb.size
  have G23 : g2 < w3.heap.size := Nat.lt_of_lt_of_le HG2.out hb.size
  have hlen : (file body).length = M + 12 := by rw [file_len, HM.out]
  have hcv1 : ∀ o : Obj, (convert 45 9 (.slice (some ⟨g1, 0, none⟩) (M + 12) c1)).run Tryz.prog (w3.alloc o) = .ok (.string ⟨(file body).toArray⟩) (w3.alloc o) := fun o => by
    rw [← hlen]; exact conv_list _ (HR13.out.block (Below.heap_alloc _ _ _ G13)) c1
  have hcv2 : ∀ o : Obj, (convert 45 9 (.slice (some ⟨g2, 0, none⟩) (M + 12) c2)).run Tryz.prog (w3.alloc o) = .ok (.string ⟨(file body).toArray⟩) (w3.alloc o) := fun o => by
    rw [← hlen]; exact conv_list _ (HR23.out.block (Below.heap_alloc _ _ _ G23)) c2
  have HB3 := Lib.hid (HB2.out.trans (hb.mono (by have := HZ2.out; omega)))
  clear hbi hbs hba hb hlen hO3
  generalize (file body).toArray = fa at *
  go_wp2_with fail
  refine (same_full _ 1 (⟨#[97]⟩ ++ name) (↑rl % 1001) (by decide) Hrel.out name (wrap64 ↑ln) Hr.out k false false name HK.out (1 + ↑ln % 1000) dg Har.out HD.out Hsz.out bi ci bs cs ba ca (by exact fun j x hx => cell_alloc _ (HCI.out j x hx)) (by exact fun j x hx => cell_alloc _ (HCS.out j x hx)) (by exact fun j x hx => cell_alloc _ (HCA.out j x hx)) w.heap.size 1 (w.heap.size + 1) 1 (w.heap.size + 1 + 1 + 1) 1 (by exact fun j x hx => cell_alloc _ (HE1.out j x hx)) (by exact fun j x hx => cell_alloc _ (HE2.out j x hx)) (by exact fun j x hx => cell_alloc _ (HE4.out j x hx))).mono ?_
  rintro e w4 ⟨rfl, hb⟩
  have HB4 := Lib.hid ((HB3.out.alloc (by omega) _).trans (hb.mono (by simp <;> omega)))
  clear hb
  go_wp2_with fail
  refine (awake_any w4).mono ?_
  rintro e w5 ⟨rfl, hb⟩
  have HB5 := Lib.hid (HB4.out.trans (hb.mono (by have := HB4.out.size; omega)))
  clear hb
  go_wp2_with fail
  go_ret
  exact ⟨rfl, HB5.out⟩

end Go.Proofs.YtgliaafiompilabGreatDoor

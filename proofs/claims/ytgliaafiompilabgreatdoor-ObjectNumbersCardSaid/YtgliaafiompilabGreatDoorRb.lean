/- The walks of the reader's small functions, again. -/
import Derived.Test.YtgliaafiompilabGreatDoorRa
import Derived.Laws.IdiomStrings
namespace Go.Proofs.YtgliaafiompilabGreatDoor
open Go.RowKit Go.Lib

set_option maxRecDepth 100000 in
set_option maxHeartbeats 1000000 in
theorem within_any (w : World) (p : Nat) (full : Bool) (n lo hi : Int) (hn : I64 n) (h1 : lo ≤ n) (h2 : n ≤ hi) (l : List UInt8) (g off c : Nat) (h : Rr w p full (enc n ++ l) g off c) :
    Calls Tryz.prog 151 #[.pointer (some ⟨p, 0, none⟩), .int .i64 lo, .int .i64 hi] w (NPost w p full (.int .i64 n) l g) := by
  have t1 : decide (n < lo) = false := by simp; omega
  have t2 : decide (hi < n) = false := by simp; omega
  have H := Lib.hid h
  clear h h1 h2
  go_enter Tryz.func151, Tryz.ntmps151
  go_wp2_with fail
  refine (rnumber_any w p full n hn l g off c H.out).mono ?_
  rintro e w1 ⟨rfl, hR, hF⟩
  have HR := Lib.hid hR
  have HF := Lib.hid hF
  clear hR hF
  go_wp2_with fail
  go_ret
  exact ⟨rfl, HR.out, HF.out⟩

set_option maxRecDepth 100000 in
set_option maxHeartbeats 1000000 in
theorem rint_any (w : World) (p : Nat) (full : Bool) (n : Int) (hn : I64 n) (l : List UInt8) (g off c : Nat) (h : Rr w p full (enc n ++ l) g off c) :
    Calls Tryz.prog 59 #[.pointer (some ⟨p, 0, none⟩)] w (NPost w p full (.int .i64 n) l g) := by
  have H := Lib.hid h
  clear h
  go_enter Tryz.func59, Tryz.ntmps59
  go_wp2_with fail
  refine (rnumber_any w p full n hn l g off c H.out).mono ?_
  rintro e w1 ⟨rfl, hR, hF⟩
  have HR := Lib.hid hR
  have HF := Lib.hid hF
  clear hR hF
  go_wp2_with fail
  go_ret
  exact ⟨rfl, HR.out, HF.out⟩

set_option maxRecDepth 100000 in
set_option maxHeartbeats 1000000 in
theorem rtruth_any (w : World) (p : Nat) (full b : Bool) (l : List UInt8) (g off c : Nat) (h : Rr w p full (encB b ++ l) g off c) :
    Calls Tryz.prog 127 #[.pointer (some ⟨p, 0, none⟩)] w (NPost w p full (.bool b) l g) := by
  have H := Lib.hid h
  clear h
  cases b
  all_goals
    go_enter Tryz.func127, Tryz.ntmps127
    go_wp2_with fail
    refine (within_any w p full _ _ _ (by decide) (by decide) (by decide) l g off c H.out).mono ?_
    rintro e w1 ⟨rfl, hR, hF⟩
    have HR := Lib.hid hR
    have HF := Lib.hid hF
    clear hR hF
    go_wp2_with fail
    go_ret
    exact ⟨rfl, HR.out, HF.out⟩

theorem conv_str {w : World} {g off : Nat} (s : ByteArray) {l : List UInt8} (h : Rd w g off (s.data.toList ++ l)) (cap : Nat) :
    (convert 45 9 (.slice (some ⟨g, off, none⟩) s.size cap)).run Tryz.prog w = .ok (.string s) w := by
  have hs : s.data.toList.length = s.size := Array.length_toList
  have := run_convert_bytes_back (P := Tryz.prog) w 45 9 5 ⟨g, off, none⟩ cap s.data.toList Tryz.u45 Tryz.u5 Tryz.u9 (fun j hj => by
    have e : (⟨g, off, none⟩ : Addr).add j = ⟨g, off + j, none⟩ := by unfold Addr.add; split <;> simp_all
    rw [e, h j (by rw [List.length_append]; omega), getD_left _ _ _ hj, List.getD_eq_getElem?_getD, List.getElem?_eq_getElem hj]
    rfl)
  rw [hs] at this
  exact this

theorem rtext_left {w : World} {p : Nat} {full : Bool} {l : List UInt8} {g off c : Nat} (s : ByteArray) (h : Rr w p full (s.data.toList ++ l) g off c) :
    ∃ off' c', Rr (w.setCell ⟨p, 0, none⟩ (.slice (some ⟨g, off + s.size, none⟩) l.length (c - s.size))) p full l g off' c' := by
  have hs : s.data.toList.length = s.size := Array.length_toList
  have := h.step s.size hs.symm
  exact ⟨_, _, this⟩

set_option maxRecDepth 100000 in
set_option maxHeartbeats 1000000 in
theorem rtext_any (w : World) (p : Nat) (full : Bool) (s : ByteArray) (hs : I64 (s.size : Int)) (l : List UInt8) (g off c : Nat) (h : Rr w p full (encS s.data.toList ++ l) g off c) :
    Calls Tryz.prog 58 #[.pointer (some ⟨p, 0, none⟩)] w (NPost w p full (.string s) l g) := by
  have hsz : s.data.toList.length = s.size := Array.length_toList
  have h' : Rr w p full (enc (s.size : Int) ++ (s.data.toList ++ l)) g off c := by
    have := h
    unfold encS at this
    rw [hsz, List.append_assoc] at this
    exact this
  have hc0 := h'.cell0
  have H := Lib.hid h'
  have hz2 : (enc (s.size : Int) ++ (s.data.toList ++ l)).length = (enc (s.size : Int)).length + (s.size + l.length) := by simp only [List.length_append, hsz]
  rw [hz2] at hc0
  clear h h' hz2
  go_enter Tryz.func58, Tryz.ntmps58
  go_wp2_with fail
  refine (within_any w p full (s.size : Int) _ _ hs (by omega) (by omega) (s.data.toList ++ l) g off c H.out).mono ?_
  rintro e w1 ⟨rfl, ⟨off1, c1, hR⟩, hF⟩
  have hc1 := hR.cell0
  have hf1 := hR.froz
  have hz3 : (s.data.toList ++ l).length = s.size + l.length := by simp only [List.length_append, hsz]
  rw [hz3] at hc1
  have hcap : s.size + l.length + 8 ≤ c1 := by have := hR.2.2.1; rw [hz3] at this; exact this
  have hcv := conv_str s hR.2.1 c1
  have HR := Lib.hid hR
  have HF := Lib.hid hF
  clear hR hF hz3
  have hcc : s.size < c1 := by omega
  have hlen : s.size ≤ s.size + l.length := by omega
  go_wp2_with fail
  go_ret
  exact ⟨rfl, rtext_left s HR.out, HF.out.trans (FStep.setCell _ _ _ _)⟩

theorem digest_left {w : World} {p : Nat} {full : Bool} {l : List UInt8} {g off c : Nat} (n : Nat) (h : Rr w p full (lb n ++ l) g off c) :
    ∃ off' c', Rr (w.setCell ⟨p, 0, none⟩ (.slice (some ⟨g, off + 8, none⟩) l.length (c - 8))) p full l g off' c' := by
  have hlb : (lb n).length = 8 := lbTo_len n 8
  have := h.step 8 hlb.symm
  exact ⟨_, _, this⟩

/-- The number whose lowest bytes are read. -/
def lowB (m k : Nat) : Nat := m % 256 ^ k

theorem long_step (m k : Nat) (h : U64 m) (hk : k < 8) :
    bits .or .u64 (lowB m k : Int) (IntKind.u64.wrap (IntKind.u64.wrap ((lby m k).toNat : Int) * 2 ^ (8 * k))) = (lowB m (k + 1) : Int) := by
  have e0 : (lby m k).toNat = m / 256 ^ k % 256 := by
    unfold lby
    have : (2 : Nat) ^ (8 * k) = 256 ^ k := by rw [Nat.pow_mul]
    rw [this]
    simp
  have e2 : (2 : Nat) ^ (8 * k) = 256 ^ k := by rw [Nat.pow_mul]
  have e3 : m / 256 ^ k % 256 * 256 ^ k ≤ m := Nat.le_trans (Nat.mul_le_mul_right _ (Nat.mod_le _ _)) (Nat.div_mul_le_self _ _)
  have e4 : m % 256 ^ k ≤ m := Nat.mod_le _ _
  unfold U64 at h
  have e5 : IntKind.u64.wrap ((m / 256 ^ k % 256 : Nat) : Int) = ((m / 256 ^ k % 256 : Nat) : Int) := by rw [IntKind.wrap_u64]; omega
  have e6 : ((m / 256 ^ k % 256 : Nat) : Int) * 2 ^ (8 * k) = ((m / 256 ^ k % 256 * 256 ^ k : Nat) : Int) := by
    have : ((2 : Int) ^ (8 * k)) = (((2 : Nat) ^ (8 * k) : Nat) : Int) := by simp
    rw [this, e2, Int.natCast_mul]
  have e7 : IntKind.u64.wrap ((m / 256 ^ k % 256 * 256 ^ k : Nat) : Int) = ((m / 256 ^ k % 256 * 256 ^ k : Nat) : Int) := by rw [IntKind.wrap_u64]; omega
  have e8 : m % 256 ^ (k + 1) = m % 256 ^ k + m / 256 ^ k % 256 * 256 ^ k := by rw [Nat.pow_succ, Nat.mod_mul, Nat.mul_comm (256 ^ k)]
  unfold lowB
  rw [e0, e5, e6, e7, u64_or_nat _ _ (by omega) (by omega), e8]
  congr 1
  rw [Nat.or_comm, ← e2]
  have := nat_join (8 * k) (m / 2 ^ (8 * k) % 256 * 2 ^ (8 * k)) (m % 2 ^ (8 * k)) (by simp) (Nat.mod_lt _ (Nat.two_pow_pos _))
  rw [this, Nat.add_comm]

theorem lowB_all (m : Nat) (h : U64 m) : lowB m 8 = m := by
  unfold lowB
  exact Nat.mod_eq_of_lt (by unfold U64 at h; have : (256 : Nat) ^ 8 = 18446744073709551616 := by decide
                             omega)

theorem lbTo_get (m i j : Nat) (h : j < i) : (lbTo m i).getD j 0 = lby m j := by
  induction i with
  | zero => omega
  | succ i ih =>
    by_cases e : j = i
    · subst e
      simp [lbTo, List.getD_eq_getElem?_getD, List.getElem?_append_right, lbTo_len]
    · rw [lbTo, getD_left _ _ _ (by rw [lbTo_len]; omega)]
      exact ih (by omega)

set_option maxRecDepth 100000 in
set_option maxHeartbeats 1000000 in
theorem rlong_any (w : World) (g off L c : Nat) (n : Nat) (hn : U64 n) (l : List UInt8) (h : Rd w g off (lb n ++ l)) (hL : 8 ≤ L) (hLb : L ≤ 3000000) :
    Calls Tryz.prog 18 #[.slice (some ⟨g, off, none⟩) L c] w fun e w' => e = .returned (.int .u64 n) ∧ w = w' := by
  have H := Lib.hid h
  have HN := Lib.hid hn
  have HLB := Lib.hid hLb
  clear h hn hLb
  go_enter Tryz.func18, Tryz.ntmps18
  go_wp2_with fail
  go_loop [2, 4] (fun u i => ∃ k : Nat, k ≤ 8 ∧ i = .int .i64 k ∧ u = .int .u64 (lowB n k)) (fun _ i => 8 - (intOf i).toNat)
  case atStart => exact ⟨0, by omega, rfl, by simp [lowB, Nat.mod_one]⟩
  case round =>
    obtain ⟨k, hk, rfl, rfl⟩ := hrel
    by_cases hlt : k < 8
    · have hlb : (lb n).length = 8 := lbTo_len n 8
      have hc := H.out k (by rw [List.length_append]; omega)
      rw [getD_left _ _ _ (by omega), show (lb n).getD k 0 = lby n k from lbTo_get n 8 k hlt] at hc
      have HX := Lib.hid (long_step n k HN.out hlt)
      have hkL : k < L := by omega
      clear hlb
      go_wp2_with fail
      go_round
      case rel => exact ⟨k + 1, by omega, by go_num, by rw [HX.out]⟩
      case measure => simp [intOf]; omega
    · go_wp2_with fail
      go_ret
      obtain rfl : k = 8 := by omega
      exact ⟨by rw [lowB_all n HN.out]; rfl, rfl⟩

set_option maxRecDepth 100000 in
set_option maxHeartbeats 1000000 in
theorem digest_any (w : World) (p : Nat) (full : Bool) (n : Nat) (hn : U64 n) (l : List UInt8) (g off c : Nat) (h : Rr w p full (lb n ++ l) g off c) :
    Calls Tryz.prog 60 #[.pointer (some ⟨p, 0, none⟩)] w (NPost w p full (.int .u64 n) l g) := by
  have hlb : (lb n).length = 8 := lbTo_len n 8
  have hc0 := h.cell0
  have hf0 := h.froz
  have hz2 : (lb n ++ l).length = 8 + l.length := by rw [List.length_append, hlb]
  have hcap : 8 + l.length + 8 ≤ c := by have := h.2.2.1; rw [hz2] at this; exact this
  have hsh : 8 + l.length ≤ 3000000 := by have := h.2.2.2.2.2; unfold Short at this; rw [hz2] at this; exact this
  have HSH := Lib.hid hsh
  rw [hz2] at hc0
  have H := Lib.hid h
  have HLB := Lib.hid hlb
  clear h hlb hz2 hsh
  go_enter Tryz.func60, Tryz.ntmps60
  go_wp2_with fail
  refine (rlong_any w g off _ c n hn l H.out.2.1 (by omega) HSH.out).mono ?_
  rintro e w1 ⟨rfl, rfl⟩
  go_wp2_with fail
  go_ret
  exact ⟨rfl, digest_left n H.out, FStep.setCell _ _ _ _⟩
end Go.Proofs.YtgliaafiompilabGreatDoor

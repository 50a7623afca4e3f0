/- Plain: how numbers are written as bytes. No program in sight. -/
import Derived.WalkKit
import Derived.Laws.BitsAllLaws
import Derived.Laws.Bits64
namespace Go.Proofs.YtgliaafiompilabGreatDoor
open Go Go.RowKit

/-- The seven least bits, and a mark that more follow. -/
def hib (k : Nat) : UInt8 := UInt8.ofNat (k % 128 + 128)
/-- The last byte. -/
def lob (k : Nat) : UInt8 := UInt8.ofNat k

/-- The bytes of a natural number, seven bits each, the least first. -/
def vb (k : Nat) : List UInt8 := if k < 128 then [lob k] else hib k :: vb (k / 128)
termination_by k
decreasing_by omega

theorem vb_small {k : Nat} (h : k < 128) : vb k = [lob k] := by rw [vb, if_pos h]
theorem vb_great {k : Nat} (h : ¬ k < 128) : vb k = hib k :: vb (k / 128) := by rw [vb, if_neg h]

theorem vb_length (n : Nat) : ∀ k, k < 128 ^ (n + 1) → (vb k).length ≤ n + 1 := by
  induction n with
  | zero => intro k h; rw [vb_small (by omega)]; simp
  | succ n ih =>
    intro k h
    by_cases hk : k < 128
    · rw [vb_small hk]; simp
    · rw [vb_great hk, List.length_cons]
      have : k / 128 < 128 ^ (n + 1) := by rw [Nat.pow_succ] at h; exact Nat.div_lt_of_lt_mul (by rw [Nat.mul_comm]; exact h)
      have := ih (k / 128) this
      omega

theorem vb_len10 {k : Nat} (h : k < 18446744073709551616) : (vb k).length ≤ 10 := vb_length 9 k (by omega)

/-- k is below 2^64. -/
def U64 (k : Nat) : Prop := k < 18446744073709551616
/-- n fits an int64. -/
def I64 (n : Int) : Prop := -9223372036854775808 ≤ n ∧ n ≤ 9223372036854775807

/-- l is not long. -/
def Short (k : Nat) (l : List UInt8) : Prop := l.length + k ≤ 3000000

theorem Short.le {k : Nat} {l : List UInt8} (h : Short k l) (m : Nat) (hm : m ≤ k) : l.length + m ≤ 70368744177664 := by unfold Short at h; omega
theorem vb_pos (k : Nat) : 1 ≤ (vb k).length := by
  by_cases h : k < 128
  · rw [vb_small h]; simp
  · rw [vb_great h]; simp

/-- Zigzag. -/
def zig (n : Int) : Nat := if 0 ≤ n then (2 * n).toNat else (-2 * n - 1).toNat

theorem zig_lt {n : Int} (h : I64 n) : U64 (zig n) := by
  obtain ⟨h1, h2⟩ := h
  unfold U64
  unfold zig; split <;> omega

/-- The bytes of a number. -/
def enc (n : Int) : List UInt8 := vb (zig n)

theorem enc_len {n : Int} (h : I64 n) : (enc n).length ≤ 10 := vb_len10 (zig_lt h)

theorem Short.mono {k m : Nat} {l : List UInt8} (h : Short k l) (hm : m ≤ k) : Short m l := by unfold Short at *; omega
theorem Short.i64 {k m : Nat} {l : List UInt8} (h : Short k l) (hm : m ≤ k) : I64 (m : Int) := by unfold Short at h; unfold I64; omega
theorem Short.add {n : Int} {k m : Nat} {l : List UInt8} (h : Short k l) (hn : I64 n) (hm : m + 10 ≤ k) : Short m (l ++ enc n) := by
  have := enc_len hn
  unfold Short at *
  rw [List.length_append]
  omega
theorem Short.str {m : Nat} {l : List UInt8} (h : Short (10 + m) l) : (l ++ enc (m : Int)).length + m ≤ 70368744177664 := by
  have := enc_len (h.i64 (m := m) (by omega))
  unfold Short at *
  rw [List.length_append]
  omega
instance (n : Int) : Decidable (I64 n) := inferInstanceAs (Decidable (_ ∧ _))
/-- The byte of a truth value. -/
def encB (b : Bool) : List UInt8 := enc (if b then 1 else 0)

/-- The bytes of a string. -/
def encS (s : List UInt8) : List UInt8 := enc s.length ++ s

/-- The byte number i of a number. -/
def lby (n i : Nat) : UInt8 := UInt8.ofNat (n / 2 ^ (8 * i) % 256)
/-- The eight bytes of a number, the least first. -/
def lbTo (n : Nat) : Nat → List UInt8
  | 0 => []
  | i + 1 => lbTo n i ++ [lby n i]
def lb (n : Nat) : List UInt8 := lbTo n 8

theorem lbTo_len (n i : Nat) : (lbTo n i).length = i := by
  induction i with
  | zero => rfl
  | succ i ih => simp [lbTo, ih]

theorem xor_ones (x : Nat) (h : x < 18446744073709551616) : x ^^^ 18446744073709551615 = 18446744073709551615 - x := by
  have e : (BitVec.ofNat 64 x ^^^ BitVec.allOnes 64).toNat = (~~~ BitVec.ofNat 64 x).toNat := by rw [BitVec.xor_allOnes]
  rw [BitVec.toNat_xor, BitVec.toNat_not, BitVec.toNat_ofNat, BitVec.toNat_allOnes, Nat.mod_eq_of_lt (by omega)] at e
  simpa using e

theorem zig_prog (n : Int) (h : I64 n) :
    bits .xor .u64 (IntKind.u64.wrap (wrap64 (n * 2))) (IntKind.u64.wrap (n / 9223372036854775808)) = (zig n : Int) := by
  obtain ⟨h1, h2⟩ := h
  simp only [IntKind.wrap_u64]
  have e : wrap64 (n * 2) % 18446744073709551616 = (n * 2) % 18446744073709551616 := by unfold wrap64; omega
  rw [e, u64_xor _ _ (by omega) (by omega) (by omega) (by omega)]
  unfold zig
  by_cases h : 0 ≤ n
  · rw [if_pos h]
    have : (n / 9223372036854775808 % 18446744073709551616).toNat = 0 := by omega
    rw [this, Nat.xor_zero]
    omega
  · rw [if_neg h]
    have : (n / 9223372036854775808 % 18446744073709551616).toNat = 18446744073709551615 := by omega
    rw [this, xor_ones _ (by omega)]
    omega

theorem long_byte (n k : Nat) : IntKind.u8.wrap ((n : Int) / 2 ^ (8 * k)) = ((lby n k).toNat : Int) := by
  unfold lby
  rw [IntKind.wrap_u8']
  have e : (n : Int) / 2 ^ (8 * k) = ((n / 2 ^ (8 * k) : Nat) : Int) := by simp
  rw [e]
  simp

theorem long_byte' (n k : Nat) : ((n : Int) / 2 ^ (8 * k)) % 256 = ((lby n k).toNat : Int) := by
  rw [← long_byte, IntKind.wrap_u8']

theorem zig_ref_neg (n : Int) (h : I64 n) (hn : n < 0) : bits .xor .u64 IntKind.u64.max (IntKind.u64.wrap (IntKind.u64.wrap n * 2)) = (zig n : Int) := by
  obtain ⟨h1, h2⟩ := h
  have em : IntKind.u64.max = 18446744073709551615 := by decide
  rw [em]
  simp only [IntKind.wrap_u64]
  rw [u64_xor _ _ (by omega) (by omega) (by omega) (by omega)]
  unfold zig
  rw [if_neg (by omega)]
  have : (18446744073709551615 : Int).toNat = 18446744073709551615 := rfl
  rw [this, Nat.xor_comm, xor_ones _ (by omega)]
  omega

theorem zig_ref_pos (n : Int) (h : I64 n) (hn : ¬ n < 0) : IntKind.u64.wrap (IntKind.u64.wrap n * 2) = (zig n : Int) := by
  obtain ⟨h1, h2⟩ := h
  simp only [IntKind.wrap_u64]
  unfold zig
  rw [if_pos (by omega)]
  omega

theorem or128 : ∀ x, x < 256 → x ||| (128 : Int).toNat = x % 128 + 128 := by decide +kernel

theorem byte_or (k : Nat) : bits .or .u8 ((k : Int) % 256) 128 = ((hib k).toNat : Int) := by
  unfold hib
  rw [u8_or _ _ (by omega) (by omega) (by omega) (by omega)]
  have e1 : ((k : Int) % 256).toNat = k % 256 := by omega
  rw [e1]
  have e2 : k % 256 ||| (128 : Int).toNat = k % 128 + 128 := by
    have : k % 256 < 256 := Nat.mod_lt _ (by omega)
    have e3 : k % 128 = k % 256 % 128 := by omega
    rw [e3]
    exact or128 _ this
  rw [e2]
  simp
  omega

theorem byte_of (k : Nat) (h : k < 128) : (k : Int) = ((lob k).toNat : Int) := by
  unfold lob
  simp
  omega

end Go.Proofs.YtgliaafiompilabGreatDoor

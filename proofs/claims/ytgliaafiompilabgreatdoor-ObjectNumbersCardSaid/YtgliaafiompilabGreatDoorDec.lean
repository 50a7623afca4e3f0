/- Plain: how numbers are read back from bytes. No program in sight. -/
import Derived.Test.YtgliaafiompilabGreatDoorEnc
namespace Go.Proofs.YtgliaafiompilabGreatDoor
open Go Go.RowKit

theorem hib_toNat (k : Nat) : (hib k).toNat = k % 128 + 128 := by
  unfold hib; simp; omega
theorem lob_toNat (k : Nat) (h : k < 128) : (lob k).toNat = k := by
  unfold lob; simp; omega

/-- Byte k of a number's bytes. -/
theorem vb_get (k : Nat) : ∀ m, k < (vb m).length → (vb m).getD k 0 = if m / 128 ^ k < 128 then lob (m / 128 ^ k) else hib (m / 128 ^ k) := by
  induction k with
  | zero =>
    intro m _
    rw [Nat.pow_zero, Nat.div_one]
    by_cases h : m < 128
    · rw [vb_small h, if_pos h]; rfl
    · rw [vb_great h, if_neg h]; rfl
  | succ k ih =>
    intro m hk
    by_cases h : m < 128
    · rw [vb_small h] at hk; simp at hk
    · rw [vb_great h] at hk ⊢
      rw [List.getD_cons_succ, ih (m / 128) (by simpa using hk), Nat.div_div_eq_div_mul, Nat.pow_succ, Nat.mul_comm]

/-- Whether byte k is the last one. -/
theorem vb_last (k : Nat) : ∀ m, k < (vb m).length → (m / 128 ^ k < 128 ↔ (vb m).length = k + 1) := by
  induction k with
  | zero =>
    intro m _
    rw [Nat.pow_zero, Nat.div_one]
    by_cases h : m < 128
    · rw [vb_small h]; simp [h]
    · rw [vb_great h]
      have := vb_pos (m / 128)
      simp only [List.length_cons]
      omega
  | succ k ih =>
    intro m hk
    by_cases h : m < 128
    · rw [vb_small h] at hk; simp at hk
    · rw [vb_great h] at hk ⊢
      have := ih (m / 128) (by simpa using hk)
      rw [Nat.div_div_eq_div_mul] at this
      rw [Nat.pow_succ, Nat.mul_comm, this, List.length_cons]
      omega

theorem vb_pred (k m : Nat) (hk : k + 1 < (vb m).length) : 128 ≤ m / 128 ^ k := by
  have := (vb_last k m (by omega))
  omega

theorem vb_nonzero (k m : Nat) (hk : k + 1 < (vb m).length) : 1 ≤ m / 128 ^ (k + 1) := by
  have := vb_pred k m hk
  rw [Nat.pow_succ, ← Nat.div_div_eq_div_mul]
  omega

theorem nine_le (m : Nat) (h : U64 m) : m / 128 ^ 9 ≤ 1 := by
  unfold U64 at h
  have e : (128 : Nat) ^ 9 = 9223372036854775808 := by decide
  rw [e]
  omega

theorem mod_step (m k : Nat) : m % 128 ^ (k + 1) = m % 128 ^ k + m / 128 ^ k % 128 * 128 ^ k := by
  rw [Nat.pow_succ, Nat.mod_mul, Nat.mul_comm (128 ^ k)]

/-- One step of reading: the next seven bits. -/
theorem read_step (m k : Nat) (h : U64 m) (hk : k < 10) (b : UInt8) (hb : b.toNat % 128 = m / 128 ^ k % 128) :
    bits .or .u64 ((m % 128 ^ k : Nat) : Int) (IntKind.u64.wrap (IntKind.u64.wrap (bits .and .u8 (b.toNat : Int) 127) * 2 ^ (7 * k))) = ((m % 128 ^ (k + 1) : Nat) : Int) := by
  have hb2 : b.toNat < 256 := b.toNat_lt
  have e1 : bits .and .u8 (b.toNat : Int) 127 = ((b.toNat % 128 : Nat) : Int) := by
    have := u8_and_nat b.toNat 127 hb2 (by omega)
    rw [nat_mask7] at this
    exact this
  have e2 : (2 : Nat) ^ (7 * k) = 128 ^ k := by rw [Nat.pow_mul]
  have e3 : m / 128 ^ k % 128 * 128 ^ k ≤ m := Nat.le_trans (Nat.mul_le_mul_right _ (Nat.mod_le _ _)) (Nat.div_mul_le_self _ _)
  have e4 : m % 128 ^ k ≤ m := Nat.mod_le _ _
  unfold U64 at h
  have e5 : IntKind.u64.wrap ((b.toNat % 128 : Nat) : Int) = ((b.toNat % 128 : Nat) : Int) := by rw [IntKind.wrap_u64]; omega
  have e6 : ((b.toNat % 128 : Nat) : Int) * 2 ^ (7 * k) = ((m / 128 ^ k % 128 * 128 ^ k : Nat) : Int) := by
    rw [hb]
    have : ((2 : Int) ^ (7 * k)) = (((2 : Nat) ^ (7 * k) : Nat) : Int) := by simp
    rw [this, e2, Int.natCast_mul]
  have e7 : IntKind.u64.wrap ((m / 128 ^ k % 128 * 128 ^ k : Nat) : Int) = ((m / 128 ^ k % 128 * 128 ^ k : Nat) : Int) := by rw [IntKind.wrap_u64]; omega
  rw [e1, e5, e6, e7, u64_or_nat _ _ (by omega) (by omega), mod_step]
  congr 1
  rw [Nat.or_comm, ← e2]
  have := nat_join (7 * k) (m / 2 ^ (7 * k) % 128 * 2 ^ (7 * k)) (m % 2 ^ (7 * k)) (by simp) (Nat.mod_lt _ (Nat.two_pow_pos _))
  rw [this, Nat.add_comm]

theorem vb_byte_mod (k m : Nat) (hk : k < (vb m).length) : ((vb m).getD k 0).toNat % 128 = m / 128 ^ k % 128 := by
  rw [vb_get k m hk]
  split
  · rename_i h; rw [lob_toNat _ h]
  · rw [hib_toNat]; omega

theorem vb_byte_lt (k m : Nat) (hk : k < (vb m).length) : ((vb m).getD k 0).toNat < 128 ↔ (vb m).length = k + 1 := by
  rw [← vb_last k m hk, vb_get k m hk]
  split
  · rename_i h; rw [lob_toNat _ h]
  · rename_i h; rw [hib_toNat]; omega

theorem vb_byte_pos (k m : Nat) (hk : k < (vb m).length) (h0 : 0 < k) : 0 < ((vb m).getD k 0).toNat := by
  obtain ⟨j, rfl⟩ : ∃ j, k = j + 1 := ⟨k - 1, by omega⟩
  have := vb_nonzero j m hk
  rw [vb_get _ m hk]
  split
  · rename_i h; rw [lob_toNat _ h]; omega
  · rw [hib_toNat]; omega

theorem vb_byte_nine (m : Nat) (hm : U64 m) (hk : 9 < (vb m).length) : ((vb m).getD 9 0).toNat ≤ 1 := by
  have := nine_le m hm
  rw [vb_get _ m hk, if_pos (by omega), lob_toNat _ (by omega)]
  exact this

/-- All bytes read. -/
theorem vb_all (k m : Nat) (hk : (vb m).length = k + 1) : m % 128 ^ (k + 1) = m := by
  have h1 := (vb_last k m (by omega)).2 hk
  apply Nat.mod_eq_of_lt
  rw [Nat.pow_succ]
  exact (Nat.div_lt_iff_lt_mul (Nat.pow_pos (by omega))).1 h1 |> fun h => by rw [Nat.mul_comm]; exact h

theorem xor_zero_i64 (x : Int) (h : I64 x) : bits .xor .i64 x 0 = x := by
  show IntKind.i64.wrap ((BitVec.ofInt 64 x ^^^ BitVec.ofInt 64 0).toNat : Int) = x
  have e : BitVec.ofInt 64 0 = 0#64 := by decide
  rw [e, BitVec.xor_zero, IntKind.wrap_i64, BitVec.toNat_ofInt]
  obtain ⟨h1, h2⟩ := h
  omega

theorem xor_neg_i64 (x : Int) (h : I64 x) : bits .xor .i64 x (-1) = -x - 1 := by
  show IntKind.i64.wrap ((BitVec.ofInt 64 x ^^^ BitVec.ofInt 64 (-1)).toNat : Int) = -x - 1
  have e : BitVec.ofInt 64 (-1) = BitVec.allOnes 64 := by decide
  rw [e, BitVec.xor_allOnes, IntKind.wrap_i64, BitVec.toNat_not, BitVec.toNat_ofInt]
  obtain ⟨h1, h2⟩ := h
  omega

end Go.Proofs.YtgliaafiompilabGreatDoor

/- The walks of the check sums. -/
import Derived.Test.YtgliaafiompilabGreatDoorWj
namespace Go.Proofs.YtgliaafiompilabGreatDoor
open Go.RowKit Go.Lib

/-- A step of the check sum. -/
def fstep (s : Nat) (x : UInt8) : Nat := (s ^^^ x.toNat) * 1099511628211 % 18446744073709551616
def fzero : Nat := 14695981039346656037
/-- The check sum of the first k bytes. -/
def fsumTo (l : List UInt8) : Nat → Nat
  | 0 => fzero
  | k + 1 => fstep (fsumTo l k) (l.getD k 0)
def fsum (l : List UInt8) : Nat := fsumTo l l.length

theorem fsumTo_lt (l : List UInt8) (k : Nat) : U64 (fsumTo l k) := by
  cases k with
  | zero => unfold U64 fsumTo fzero; omega
  | succ k => unfold U64 fsumTo fstep; exact Nat.mod_lt _ (by omega)

theorem fsum_round (l : List UInt8) (k : Nat) (hk : k < l.length) : IntKind.u64.wrap (bits .xor .u64 (fsumTo l k : Int) (IntKind.u64.wrap (l[k].toNat : Int)) * 1099511628211) = (fsumTo l (k + 1) : Int) := by
  have h := fsumTo_lt l k
  unfold U64 at h
  have h2 : (l[k]).toNat < 256 := (l[k]).toNat_lt
  have e : IntKind.u64.wrap ((l[k]).toNat : Int) = ((l[k]).toNat : Int) := by rw [IntKind.wrap_u64]; omega
  have e2 : l.getD k 0 = l[k] := by simp [hk]
  rw [e, u64_xor_nat _ _ h (by omega), IntKind.wrap_u64]
  show _ = ((fstep (fsumTo l k) (l.getD k 0) : Nat) : Int)
  rw [e2]
  unfold fstep
  omega

/-- The cells of a slice of bytes. -/
def Rd (w : World) (g off : Nat) (l : List UInt8) : Prop := ∀ j, j < l.length → w.cell? ⟨g, off + j, none⟩ = some (.int .u8 ((l.getD j 0).toNat : Int))

set_option maxRecDepth 100000 in
set_option maxHeartbeats 400000 in
theorem sum_any (w : World) (g off c : Nat) (l : List UInt8) (h : Rd w g off l) (hl : Short 0 l) :
    Calls Tryz.prog 12 #[.slice (some ⟨g, off, none⟩) l.length c] w fun e w' => e = .returned (.int .u64 (fsum l)) ∧ w = w' := by
  have H := Lib.hid h
  clear h
  have hlen : l.length ≤ 3000000 := hl
  go_enter Tryz.func12, Tryz.ntmps12
  go_wp2_with fail
  go_loop [3, 8] (fun s i => ∃ k : Nat, k ≤ l.length ∧ i = .int .i64 k ∧ s = .int .u64 (fsumTo l k)) (fun _ i => l.length - (intOf i).toNat)
  case atStart => exact ⟨0, by omega, rfl, rfl⟩
  case round =>
    obtain ⟨k, hk, rfl, rfl⟩ := hrel
    by_cases hlt : k < l.length
    · have hc := H.out k hlt
      go_wp2_with fail
      go_round
      case rel => exact ⟨k + 1, by omega, by go_num, by rw [← fsum_round l k hlt]⟩
      case measure => simp [intOf]; omega
    · go_wp2_with fail
      go_ret
      obtain rfl : k = l.length := by omega
      exact ⟨rfl, rfl⟩
set_option maxRecDepth 100000 in
set_option maxHeartbeats 400000 in
theorem osum_any (w : World) (g off c : Nat) (l : List UInt8) (h : Rd w g off l) (hl : Short 0 l) :
    Calls Tryz.prog 17 #[.slice (some ⟨g, off, none⟩) l.length c] w fun e w' => e = .returned (.int .u64 (fsum l)) ∧ w = w' := by
  have H := Lib.hid h
  clear h
  have hlen : l.length ≤ 3000000 := hl
  go_enter Tryz.func17, Tryz.ntmps17
  go_wp2_with fail
  go_loop [3, 4] (fun s i => ∃ k : Nat, k ≤ l.length ∧ i = .int .i64 k ∧ s = .int .u64 (fsumTo l k)) (fun _ i => l.length - (intOf i).toNat)
  case atStart => exact ⟨0, by omega, rfl, rfl⟩
  case round =>
    obtain ⟨k, hk, rfl, rfl⟩ := hrel
    by_cases hlt : k < l.length
    · have hc := H.out k hlt
      go_wp2_with fail
      go_round
      case rel => exact ⟨k + 1, by omega, by go_num, by rw [← fsum_round l k hlt]⟩
      case measure => simp [intOf]; omega
    · go_wp2_with fail
      go_ret
      obtain rfl : k = l.length := by omega
      exact ⟨rfl, rfl⟩
end Go.Proofs.YtgliaafiompilabGreatDoor

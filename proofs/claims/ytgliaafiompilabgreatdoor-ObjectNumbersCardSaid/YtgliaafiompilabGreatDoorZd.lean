/- ObjectNumbers over readings: whatever the five arguments are, the call returns true and they read as they did. -/
import Derived.Test.YtgliaafiompilabGreatDoorSd
import Derived.Test.YtgliaafiompilabGreatDoorZe
import Derived.ProofKit
import Derived.OpenShut
import Derived.MakeChecks
import Derived.LaidMore
import Derived.Lay
import Derived.Stop.Joined
namespace Go.Proofs.YtgliaafiompilabGreatDoor
open Go.ChangeShapes Go.WideShapes Go.RowKit
open Go.ChangeMaps (open_string shut_string)

theorem Tryz.own : ownKnob Tryz.prog.godebug = none := by kernel_rfl

theorem nat_of_u64 {x : Int} (h : (Lit.int .u64 x).wf = true) : ∃ n : Nat, x = n ∧ U64 n := by
  have hb := bounds_u64 h
  exact ⟨x.toNat, by omega, by unfold U64; omega⟩
theorem i64_of {x : Int} (h : (Lit.int .i64 x).wf = true) : I64 x := bounds_i64 h

set_option maxRecDepth 100000 in
set_option maxHeartbeats 1000000 in
theorem lifted (os : Os) (started : os.Started) (H : Type) (enc : TypeId × Value → H) :
    ReturnsInHanded {} Tryz.checked os 3 .any (fun w args => (Rows.objectNumbersSpec.pre enc Tryz.prog Tryz.f3 Rows.objectNumbersRow.domain false w args ∧ laidMetH Tryz.prog Rows.objectNumbersRow.laid w) ∧ sizedMet enc Tryz.prog Tryz.f3 (OpenSpec.ofChange Rows.objectNumbersSpec) false w args)
      (Rows.objectNumbersSpec.post enc Tryz.prog Tryz.f3 false true false false) := by
  refine returnsInHanded_of_change_and (C := Tryz.checked) (X := fun w _ => laidMetH Tryz.prog Rows.objectNumbersRow.laid w) (fun _ _ _ hh h => h.of_heap hh) Tryz.own started (by as_aux_lemma => kernel_rfl) Tryz.func3
    (ChangeSpec.witness_shaped (enc := enc) (C := Tryz.checked) (os := os) (X := fun w _ => laidMetH Tryz.prog Rows.objectNumbersRow.laid w) false (World.laidAll Tryz.prog os Rows.objectNumbersRow.laid) #[.int .u64 0, .int .u64 0, .int .u64 0, .string ⟨#[]⟩, .int .i64 0] 8 (World.laidAll_os _ _ _)
      (wf10 os) (wf6 os) (wf7 os H enc) (wf8 os H enc) (wf9 os)) ?_
  intro W base args ds gs before hval0 hW hc _ hL _
  have hval : ∀ (j : Nat) t v, Tryz.f3.params[j]? = some t → args[j]? = some v → Value.okWide Tryz.prog W .any base t v := hval0
  have hW' := hW
  obtain ⟨p, q, hA0, hV, rfl, _, _⟩ := hW
  have hA : DataW.TrodAll enc Tryz.prog W 0 (fun _ => true) true Tryz.f3.params.toList args.toList ds p := hA0
  rw [Tryz.params3] at hA hval
  obtain ⟨v0, vs0, d0, ds0, p0, q0, hargs, rfl, rfl, h0, r0⟩ := trodAll_cons hA
  obtain ⟨v1, vs1, d1, ds1, p1, q1, rfl, rfl, rfl, h1, r1⟩ := trodAll_cons r0
  obtain ⟨v2, vs2, d2, ds2, p2, q2, rfl, rfl, rfl, h2, r2⟩ := trodAll_cons r1
  obtain ⟨v3, vs3, d3, ds3, p3, q3, rfl, rfl, rfl, h3, r3⟩ := trodAll_cons r2
  obtain ⟨v4, vs4, d4, ds4, p4, q4, rfl, rfl, rfl, h4, r4⟩ := trodAll_cons r3
  obtain ⟨rfl, rfl, rfl⟩ := trodAll_nil r4
  have ha : args = #[v0, v1, v2, v3, v4] := Array.toList_inj.1 (by rw [hargs])
  subst ha
  obtain ⟨rfl, rfl⟩ := trodVars_none hV
  obtain ⟨x0, rfl, rfl, rfl, wx0⟩ := open_int Tryz.underlying22 (hval 0 22 v0 rfl rfl) h0
  obtain ⟨x1, rfl, rfl, rfl, wx1⟩ := open_int Tryz.underlying22 (hval 1 22 v1 rfl rfl) h1
  obtain ⟨x2, rfl, rfl, rfl, wx2⟩ := open_int Tryz.underlying22 (hval 2 22 v2 rfl rfl) h2
  obtain ⟨s, rfl, rfl, rfl, ws⟩ := open_string Tryz.underlying9 (hval 3 9 v3 rfl rfl) h3
  obtain ⟨k, rfl, rfl, rfl, wk⟩ := open_int Tryz.underlying3 (hval 4 3 v4 rfl rfl) h4
  obtain ⟨n0, rfl, u0⟩ := nat_of_u64 wx0
  obtain ⟨n1, rfl, u1⟩ := nat_of_u64 wx1
  obtain ⟨n2, rfl, u2⟩ := nat_of_u64 wx2
  have law : Calls Tryz.prog 3 #[.int .u64 n0, .int .u64 n1, .int .u64 n2, .string s, .int .i64 k] W (RPost W (.bool true)) := by
    by_cases hs : s.size ≤ 200
    · exact law_short W n0 n1 n2 s k hs u2 (i64_of wk)
    · exact law_long W n0 n1 n2 s k (by omega)
  refine law.mono fun e W' hh => ?_
  obtain ⟨rfl, hB⟩ := hh
  have e1 : Rows.objectNumbersSpec.fn H ([.lit (.int .u64 n0), .lit (.int .u64 n1), .lit (.int .u64 n2), .lit (.string s.data.toList), .lit (.int .i64 k)] ++ []) = { results := [.lit (.bool true)], args := [.lit (.int .u64 n0), .lit (.int .u64 n1), .lit (.int .u64 n2), .lit (.string s.data.toList), .lit (.int .i64 k)] } := by simp [Rows.objectNumbersSpec]
  refine ⟨_, rfl, _, _, _, [], [], [], hW', ?_, ?_, ?_, hB.frame _, fun h => by cases h⟩
  · rw [e1]; exact trodAll_mk1 (shut_bool Tryz.underlying4 true)
  · rw [e1]; exact trodAll_cons_mk (shut_int Tryz.underlying22 wx0) (trodAll_cons_mk (shut_int Tryz.underlying22 wx1) (trodAll_cons_mk (shut_int Tryz.underlying22 wx2) (trodAll_cons_mk (shut_string Tryz.underlying9 ws) (trodAll_cons_mk (shut_int Tryz.underlying3 wk) trodAll_mk0))))
  · rw [e1]; rfl

end Go.Proofs.YtgliaafiompilabGreatDoor

-- By a program of this session (wip/tools/mkprint.py), for this claim.
import Derived.Test.YtndmfbaffkekgaaRows
import Derived.Test.YtndmfbaffkekgaaRd
import Derived.Test.YtndmfbaffkekgaaPChunkEncodesx6
import Derived.Test.YtndmfbaffkekgaaPureChunkEncodes
import Derived.WalkKit
import Derived.ProofKit
import Derived.OpenShut
import Derived.ShutString
import Derived.ChangeOld
import Derived.Below
import Derived.SizedLaws
import Derived.Carry
namespace Go.Proofs.Ytndmfbaffkekgaa.chunkEncodes
open Go.ChangeShapes Go.WideShapes Go.ChangeAt Go.RowKit
open Go.ChangeMaps (open_string shut_string)
open Go.Proofs.YtndmfbaffkekgaaW.PrintWords Go.Proofs.Ytndmfbaffkekgaa.PChunkEncodes
set_option linter.unusedVariables false
theorem own : ownKnob Try.prog.godebug = none := by kernel_rfl
theorem laidOut : laidOutB Try.prog = true := by kernel_rfl
theorem opens_k29 : Rd.Opens Try.prog 29 k29 (fun x => ((Lit.int .i64 x.f0).wf = true ∧ (Lit.int .i64 x.f1).wf = true ∧ True ∧ True ∧ x.f4.size ≤ 140737488351232)) := by
  have h := Rd.opens_struct (f := fun x : S29 => (x.f0, x.f1, x.f2, x.f3, x.f4)) (fun (b : (Int) × (Int) × (Bool) × (Bool) × (ByteArray)) => (⟨b.1, b.2.1, b.2.2.1, b.2.2.2.1, b.2.2.2.2⟩ : S29)) (fun _ => rfl) Try.underlying29 (by kernel_rfl) (Rd.fs_cons rfl (by kernel_rfl) (Rd.opens_int Try.underlying3) (Rd.fs_cons rfl (by kernel_rfl) (Rd.opens_int Try.underlying3) (Rd.fs_cons rfl (by kernel_rfl) (Rd.opens_bool Try.underlying4) (Rd.fs_cons rfl (by kernel_rfl) (Rd.opens_bool Try.underlying4) (Rd.fs_last rfl (by kernel_rfl) (Rd.opens_string Try.underlying9))))))
  exact h
set_option maxRecDepth 100000 in
theorem lifted (os : Os) (started : os.Started) (H : Type) (enc : TypeId × Value → H) :
    ReturnsInHanded {} Try.checked os 6 .any (Rows.chunkEncodesSpec.pre6 enc Try.prog Try.f6 Rows.chunkEncodesRow.domain false) (Rows.chunkEncodesSpec.post enc Try.prog Try.f6 false true false false) := by
  refine returnsInHanded_of_change_sized (C := Try.checked) own started (by kernel_rfl) Try.func6
    (ChangeSpec.witness6 (enc := enc) (C := Try.checked) false ⟨#[], #[.agg #[.int .i64 0, .int .i64 0, .bool false, .bool false, .string ByteArray.empty]], []⟩ 8 (by kernel_rfl) (by kernel_rfl) (by kernel_rfl) (by kernel_rfl)) ?_
  intro W base args ds gs before hval0 hW hcnd hsz0 _
  have hsz : (DataW.weightsEach Try.prog (Try.f6.params.toList ++ Rows.chunkEncodesSpec.plain.varTypes Try.prog) (ds ++ gs)).all (· ≤ reachBytes) = true := hsz0
  have hval : ∀ (j : Nat) t v, Try.f6.params[j]? = some t → args[j]? = some v → Value.okWide Try.prog W .any base t v := hval0
  have hW' := hW
  obtain ⟨p, q, hA0, hV, rfl, hfz, hnd⟩ := hW
  have hA : DataW.TrodAll enc Try.prog W 0 (fun _ => true) true Try.f6.params.toList args.toList ds p := hA0
  rw [Try.params6] at hA hval hsz
  obtain ⟨v0, vs0, d0, ds0, p0, q0, hargs, rfl, rfl, h0, r0⟩ := trodAll_cons hA
  obtain ⟨rfl, rfl, rfl⟩ := trodAll_nil r0
  obtain rfl : args = #[v0] := by cases args; simp_all
  obtain ⟨rfl, rfl⟩ := trodVars_none hV
  have lt0 : ∀ x ∈ p0, x.block < W.heap.size := by obtain ⟨m, hm⟩ := h0; exact DataW.trod_lt m _ _ _ hm
  have k0 := h0
  obtain ⟨cs0, rfl, hz0⟩ := okWide_struct Try.underlying29 (hval 0 29 v0 rfl rfl)
  obtain ⟨x0, hK0, y0⟩ := Rd.opens_at opens_k29 hsz (j := 0) (T := 29) rfl rfl h0
  rw [Rd.agg_cells] at hK0
  have e0 := k29_open hK0
  have e0' := congrArg List.toArray e0
  rw [Array.toArray_toList] at e0'
  subst e0'
  clear hA0 hval0 hsz0 hsz
  refine (PChunkEncodes.cubbylaw04_ChunkEncodes.walk Pure.ChunkEncodes x0.f0 x0.f1 x0.f2 x0.f3 x0.f4 W  y0.1 y0.2.1 y0.2.2.2.2).mono fun e W' ⟨he, bel⟩ => ?_
  subst he
  exact ⟨_, rfl, _, _, _, [], _, [], hW', trodAll_mk1 (shut_bool Try.underlying4 _), (trodAll_cons_mk (Below.trod laidOut (by kernel_rfl) (of_decide_eq_true (by kernel_rfl)) k0 bel lt0) trodAll_mk0), rfl, bel.frame _, fun h => by cases h⟩
theorem over : Rows.chunkEncodesRow.holds Try.pinned (OpenSpec.ofChange Rows.chunkEncodesSpec) :=
  OpenClaim.holds_of_wide 6 Try.f6 rfl rfl rfl rfl rfl rfl rfl ⟨rfl, rfl, rfl, rfl, rfl⟩ rfl rfl rfl rfl rfl (by kernel_rfl) Try.func6 (by kernel_rfl)
    (of_decide_eq_true (by kernel_rfl)) (by unfold Func.isWrapper; first | (rw [if_pos (by decide +kernel)]; kernel_rfl) | (rw [if_neg (by decide +kernel)]; exact ⟨rfl, rfl⟩))
    (fun os started H enc _ => lifted os started H enc)
theorem proved : Rows.ChunkEncodesSaid := over
#print axioms proved
end Go.Proofs.Ytndmfbaffkekgaa.chunkEncodes
namespace Go.Proofs.Ytndmfbaffkekgaa
/-- The row, under a short name, for the claim. -/
theorem chunkEncodes_holds : Rows.ChunkEncodesSaid := chunkEncodes.proved
end Go.Proofs.Ytndmfbaffkekgaa

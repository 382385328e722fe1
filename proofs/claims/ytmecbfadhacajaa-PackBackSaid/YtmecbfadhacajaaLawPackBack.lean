-- By a program of this session (wip/tools/mkprint.py), for this claim.
import Derived.Test.YtmecbfadhacajaaRows
import Derived.Test.YtmecbfadhacajaaRd
import Derived.Test.YtmecbfadhacajaaPPackBackx2
import Derived.Test.YtmecbfadhacajaaPurePackBack
import Derived.WalkKit
import Derived.ProofKit
import Derived.OpenShut
import Derived.ShutString
import Derived.ChangeOld
import Derived.Below
import Derived.SizedLaws
import Derived.Carry
namespace Go.Proofs.Ytmecbfadhacajaa.packBack
open Go.ChangeShapes Go.WideShapes Go.ChangeAt Go.RowKit
open Go.ChangeMaps (open_string shut_string)
open Go.Proofs.YtmecbfadhacajaaW.PrintWords Go.Proofs.Ytmecbfadhacajaa.PPackBack
set_option linter.unusedVariables false
theorem own : ownKnob Try.prog.godebug = none := by kernel_rfl
theorem laidOut : laidOutB Try.prog = true := by kernel_rfl
theorem opens_k34 : Rd.Opens Try.prog 34 k34 (fun x => ((Lit.int .i64 x.f0).wf = true ∧ (Lit.int .i64 x.f1).wf = true ∧ x.f2.size ≤ 140737488351232)) := by
  have h := Rd.opens_struct (f := fun x : S34 => (x.f0, x.f1, x.f2)) (fun (b : (Int) × (Int) × (ByteArray)) => (⟨b.1, b.2.1, b.2.2⟩ : S34)) (fun _ => rfl) Try.underlying34 (by kernel_rfl) (Rd.fs_cons rfl (by kernel_rfl) (Rd.opens_int Try.underlying3) (Rd.fs_cons rfl (by kernel_rfl) (Rd.opens_int Try.underlying3) (Rd.fs_last rfl (by kernel_rfl) (Rd.opens_string Try.underlying9))))
  exact h
set_option maxRecDepth 100000 in
theorem lifted (os : Os) (started : os.Started) (H : Type) (enc : TypeId × Value → H) :
    ReturnsInHanded {} Try.checked os 5 .any (Rows.packBackSpec.pre6 enc Try.prog Try.f5 Rows.packBackRow.domain false) (Rows.packBackSpec.post enc Try.prog Try.f5 false true false false) := by
  refine returnsInHanded_of_change_sized (C := Try.checked) own started (by kernel_rfl) Try.func5
    (ChangeSpec.witness6 (enc := enc) (C := Try.checked) false ⟨#[], #[.slice none 0 0], []⟩ 8 (by kernel_rfl) (by kernel_rfl) (by kernel_rfl) (by kernel_rfl)) ?_
  intro W base args ds gs before hval0 hW hcnd hsz0 _
  have hsz : (DataW.weightsEach Try.prog (Try.f5.params.toList ++ Rows.packBackSpec.plain.varTypes Try.prog) (ds ++ gs)).all (· ≤ reachBytes) = true := hsz0
  have hval : ∀ (j : Nat) t v, Try.f5.params[j]? = some t → args[j]? = some v → Value.okWide Try.prog W .any base t v := hval0
  have hW' := hW
  obtain ⟨p, q, hA0, hV, rfl, hfz, hnd⟩ := hW
  have hA : DataW.TrodAll enc Try.prog W 0 (fun _ => true) true Try.f5.params.toList args.toList ds p := hA0
  rw [Try.params5] at hA hval hsz
  obtain ⟨v0, vs0, d0, ds0, p0, q0, hargs, rfl, rfl, h0, r0⟩ := trodAll_cons hA
  obtain ⟨rfl, rfl, rfl⟩ := trodAll_nil r0
  obtain rfl : args = #[v0] := by cases args; simp_all
  obtain ⟨rfl, rfl⟩ := trodVars_none hV
  have lt0 : ∀ x ∈ p0, x.block < W.heap.size := by obtain ⟨m, hm⟩ := h0; exact DataW.trod_lt m _ _ _ hm
  have k0 := h0
  obtain ⟨A0, len0, cap0, rfl⟩ := okWide_slice Try.underlying24 (hval 0 24 v0 rfl rfl)
  obtain ⟨x0, hK0, y0⟩ := Rd.opens_at (Rd.opens_slice (B := 32) Try.underlying24 (by kernel_rfl) (by kernel_rfl) opens_k34) hsz (j := 0) (T := 24) rfl rfl h0
  obtain ⟨rfl, hc0, hr0⟩ := Rd.slice_of_K hK0
  clear hA0 hval0 hsz0 hsz
  refine (PPackBack.cubbylaw02_PackBack.walk Pure.PackBack A0 cap0 x0 W hr0 hc0 y0).mono fun e W' ⟨he, bel⟩ => ?_
  subst he
  exact ⟨_, rfl, _, _, _, [], _, [], hW', trodAll_mk1 (shut_bool Try.underlying4 _), (trodAll_cons_mk (Below.trod laidOut (by kernel_rfl) (of_decide_eq_true (by kernel_rfl)) k0 bel lt0) trodAll_mk0), rfl, bel.frame _, fun h => by cases h⟩
theorem over : Rows.packBackRow.holds Try.pinned (OpenSpec.ofChange Rows.packBackSpec) :=
  OpenClaim.holds_of_wide 5 Try.f5 rfl rfl rfl rfl rfl rfl rfl ⟨rfl, rfl, rfl, rfl, rfl⟩ rfl rfl rfl rfl rfl (by kernel_rfl) Try.func5 (by kernel_rfl)
    (of_decide_eq_true (by kernel_rfl)) (by unfold Func.isWrapper; first | (rw [if_pos (by decide +kernel)]; kernel_rfl) | (rw [if_neg (by decide +kernel)]; exact ⟨rfl, rfl⟩))
    (fun os started H enc _ => lifted os started H enc)
theorem proved : Rows.PackBackSaid := over
#print axioms proved
end Go.Proofs.Ytmecbfadhacajaa.packBack
namespace Go.Proofs.Ytmecbfadhacajaa
/-- The row, under a short name, for the claim. -/
theorem packBack_holds : Rows.PackBackSaid := packBack.proved
end Go.Proofs.Ytmecbfadhacajaa

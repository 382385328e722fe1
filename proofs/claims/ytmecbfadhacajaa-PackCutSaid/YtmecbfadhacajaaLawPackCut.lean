-- By a program of this session (wip/tools/mkprint.py), for this claim.
import Derived.Test.YtmecbfadhacajaaRows
import Derived.Test.YtmecbfadhacajaaRd
import Derived.Test.YtmecbfadhacajaaPPackCutx7
import Derived.Test.YtmecbfadhacajaaPurePackCut
import Derived.WalkKit
import Derived.ProofKit
import Derived.OpenShut
import Derived.ShutString
import Derived.ChangeOld
import Derived.Below
import Derived.SizedLaws
import Derived.Carry
namespace Go.Proofs.Ytmecbfadhacajaa.packCut
open Go.ChangeShapes Go.WideShapes Go.ChangeAt Go.RowKit
open Go.ChangeMaps (open_string shut_string)
open Go.Proofs.YtmecbfadhacajaaW.PrintWords Go.Proofs.Ytmecbfadhacajaa.PPackCut
set_option linter.unusedVariables false
theorem own : ownKnob Try.prog.godebug = none := by kernel_rfl
theorem laidOut : laidOutB Try.prog = true := by kernel_rfl
theorem opens_k48 : Rd.Opens Try.prog 48 k48 (fun x => ((Lit.int .i64 x.f0).wf = true ∧ x.f1.size ≤ 140737488351232 ∧ x.f2.size ≤ 140737488351232)) := by
  have h := Rd.opens_struct (f := fun x : S48 => (x.f0, x.f1, x.f2)) (fun (b : (Int) × (ByteArray) × (ByteArray)) => (⟨b.1, b.2.1, b.2.2⟩ : S48)) (fun _ => rfl) Try.underlying48 (by kernel_rfl) (Rd.fs_cons rfl (by kernel_rfl) (Rd.opens_int Try.underlying3) (Rd.fs_cons rfl (by kernel_rfl) (Rd.opens_string Try.underlying9) (Rd.fs_last rfl (by kernel_rfl) (Rd.opens_string Try.underlying9))))
  exact h
set_option maxRecDepth 100000 in
theorem lifted (os : Os) (started : os.Started) (H : Type) (enc : TypeId × Value → H) :
    ReturnsInHanded {} Try.checked os 6 .any (Rows.packCutSpec.pre6 enc Try.prog Try.f6 Rows.packCutRow.domain false) (Rows.packCutSpec.post enc Try.prog Try.f6 false true false false) := by
  refine returnsInHanded_of_change_sized (C := Try.checked) own started (by kernel_rfl) Try.func6
    (ChangeSpec.witness6 (enc := enc) (C := Try.checked) false ⟨#[], #[.agg #[.int .i64 0, .string ByteArray.empty, .string ByteArray.empty], .int .i64 0], []⟩ 8 (by kernel_rfl) (by kernel_rfl) (by kernel_rfl) (by kernel_rfl)) ?_
  intro W base args ds gs before hval0 hW hcnd hsz0 _
  have hsz : (DataW.weightsEach Try.prog (Try.f6.params.toList ++ Rows.packCutSpec.plain.varTypes Try.prog) (ds ++ gs)).all (· ≤ reachBytes) = true := hsz0
  have hval : ∀ (j : Nat) t v, Try.f6.params[j]? = some t → args[j]? = some v → Value.okWide Try.prog W .any base t v := hval0
  have hW' := hW
  obtain ⟨p, q, hA0, hV, rfl, hfz, hnd⟩ := hW
  have hA : DataW.TrodAll enc Try.prog W 0 (fun _ => true) true Try.f6.params.toList args.toList ds p := hA0
  rw [Try.params6] at hA hval hsz
  obtain ⟨v0, vs0, d0, ds0, p0, q0, hargs, rfl, rfl, h0, r0⟩ := trodAll_cons hA
  obtain ⟨v1, vs1, d1, ds1, p1, q1, rfl, rfl, rfl, h1, r1⟩ := trodAll_cons r0
  obtain ⟨rfl, rfl, rfl⟩ := trodAll_nil r1
  obtain rfl : args = #[v0, v1] := by cases args; simp_all
  obtain ⟨rfl, rfl⟩ := trodVars_none hV
  have lt0 : ∀ x ∈ p0, x.block < W.heap.size := by obtain ⟨m, hm⟩ := h0; exact DataW.trod_lt m _ _ _ hm
  have k0 := h0
  obtain ⟨cs0, rfl, hz0⟩ := okWide_struct Try.underlying48 (hval 0 48 v0 rfl rfl)
  obtain ⟨x0, hK0, y0⟩ := Rd.opens_at opens_k48 hsz (j := 0) (T := 48) rfl rfl h0
  rw [Rd.agg_cells] at hK0
  have e0 := k48_open hK0
  have e0' := congrArg List.toArray e0
  rw [Array.toArray_toList] at e0'
  subst e0'
  obtain ⟨a1, rfl, rfl, rfl, w1⟩ := open_int Try.underlying3 (hval 1 3 v1 rfl rfl) h1
  clear hA0 hval0 hsz0 hsz
  refine (PPackCut.cubbylaw02_PackCut.walk Pure.PackCut x0.f0 x0.f1 x0.f2 a1 W  y0.1 y0.2.1 y0.2.2 w1).mono fun e W' ⟨he, bel⟩ => ?_
  subst he
  exact ⟨_, rfl, _, _, _, [], _, [], hW', trodAll_mk1 (shut_bool Try.underlying4 _), (trodAll_cons_mk (Below.trod laidOut (by kernel_rfl) (of_decide_eq_true (by kernel_rfl)) k0 bel lt0) (trodAll_cons_mk (shut_int Try.underlying3 w1) trodAll_mk0)), rfl, bel.frame _, fun h => by cases h⟩
theorem over : Rows.packCutRow.holds Try.pinned (OpenSpec.ofChange Rows.packCutSpec) :=
  OpenClaim.holds_of_wide 6 Try.f6 rfl rfl rfl rfl rfl rfl rfl ⟨rfl, rfl, rfl, rfl, rfl⟩ rfl rfl rfl rfl rfl (by kernel_rfl) Try.func6 (by kernel_rfl)
    (of_decide_eq_true (by kernel_rfl)) (by unfold Func.isWrapper; first | (rw [if_pos (by decide +kernel)]; kernel_rfl) | (rw [if_neg (by decide +kernel)]; exact ⟨rfl, rfl⟩))
    (fun os started H enc _ => lifted os started H enc)
theorem proved : Rows.PackCutSaid := over
#print axioms proved
end Go.Proofs.Ytmecbfadhacajaa.packCut
namespace Go.Proofs.Ytmecbfadhacajaa
/-- The row, under a short name, for the claim. -/
theorem packCut_holds : Rows.PackCutSaid := packCut.proved
end Go.Proofs.Ytmecbfadhacajaa

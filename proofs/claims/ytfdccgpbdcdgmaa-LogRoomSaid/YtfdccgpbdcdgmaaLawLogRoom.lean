-- By a program of this session (wip/tools/mkprint.py), for this claim.
import Derived.Test.YtfdccgpbdcdgmaaRows
import Derived.Test.YtfdccgpbdcdgmaaRd
import Derived.Test.YtfdccgpbdcdgmaaPLogRoomx11
import Derived.Test.YtfdccgpbdcdgmaaPureLogRoom
import Derived.WalkKit
import Derived.ProofKit
import Derived.OpenShut
import Derived.ShutString
import Derived.ChangeOld
import Derived.Below
import Derived.SizedLaws
import Derived.Carry
namespace Go.Proofs.Ytfdccgpbdcdgmaa.logRoom
open Go.ChangeShapes Go.WideShapes Go.ChangeAt Go.RowKit
open Go.ChangeMaps (open_string shut_string)
open Go.Proofs.YtfdccgpbdcdgmaaW.PrintWords Go.Proofs.Ytfdccgpbdcdgmaa.PLogRoom
set_option linter.unusedVariables false
theorem own : ownKnob Try.prog.godebug = none := by kernel_rfl
theorem laidOut : laidOutB Try.prog = true := by kernel_rfl
set_option maxRecDepth 100000 in
theorem lifted (os : Os) (started : os.Started) (H : Type) (enc : TypeId × Value → H) :
    ReturnsInHanded {} Try.checked os 4 .any (Rows.logRoomSpec.pre6 enc Try.prog Try.f4 Rows.logRoomRow.domain false) (Rows.logRoomSpec.post enc Try.prog Try.f4 false true false false) := by
  refine returnsInHanded_of_change_sized (C := Try.checked) own started (by kernel_rfl) Try.func4
    (ChangeSpec.witness6 (enc := enc) (C := Try.checked) false ⟨#[], #[.slice none 0 0], []⟩ 8 (by kernel_rfl) (by kernel_rfl) (by kernel_rfl) (by kernel_rfl)) ?_
  intro W base args ds gs before hval0 hW hcnd hsz0 _
  have hsz : (DataW.weightsEach Try.prog (Try.f4.params.toList ++ Rows.logRoomSpec.plain.varTypes Try.prog) (ds ++ gs)).all (· ≤ reachBytes) = true := hsz0
  have hval : ∀ (j : Nat) t v, Try.f4.params[j]? = some t → args[j]? = some v → Value.okWide Try.prog W .any base t v := hval0
  have hW' := hW
  obtain ⟨p, q, hA0, hV, rfl, hfz, hnd⟩ := hW
  have hA : DataW.TrodAll enc Try.prog W 0 (fun _ => true) true Try.f4.params.toList args.toList ds p := hA0
  rw [Try.params4] at hA hval hsz
  obtain ⟨v0, vs0, d0, ds0, p0, q0, hargs, rfl, rfl, h0, r0⟩ := trodAll_cons hA
  obtain ⟨rfl, rfl, rfl⟩ := trodAll_nil r0
  obtain rfl : args = #[v0] := by cases args; simp_all
  obtain ⟨rfl, rfl⟩ := trodVars_none hV
  have lt0 : ∀ x ∈ p0, x.block < W.heap.size := by obtain ⟨m, hm⟩ := h0; exact DataW.trod_lt m _ _ _ hm
  have k0 := h0
  obtain ⟨A0, len0, cap0, rfl⟩ := okWide_slice Try.underlying44 (hval 0 44 v0 rfl rfl)
  obtain ⟨x0, hK0, y0⟩ := Rd.opens_at (Rd.opens_slice (B := 2) Try.underlying44 (by kernel_rfl) (by kernel_rfl) (Rd.opens_int Try.underlying46)) hsz (j := 0) (T := 44) rfl rfl h0
  obtain ⟨rfl, hc0, hr0⟩ := Rd.slice_of_K hK0
  clear hA0 hval0 hsz0 hsz
  refine (PLogRoom.cubbylaw05_LogRoom.walk Pure.LogRoom A0 cap0 x0 W hr0 hc0 y0).mono fun e W' ⟨he, bel⟩ => ?_
  subst he
  exact ⟨_, rfl, _, _, _, [], _, [], hW', trodAll_mk1 (shut_bool Try.underlying4 _), (trodAll_cons_mk (Below.trod laidOut (by kernel_rfl) (of_decide_eq_true (by kernel_rfl)) k0 bel lt0) trodAll_mk0), rfl, bel.frame _, fun h => by cases h⟩
theorem over : Rows.logRoomRow.holds Try.pinned (OpenSpec.ofChange Rows.logRoomSpec) :=
  OpenClaim.holds_of_wide 4 Try.f4 rfl rfl rfl rfl rfl rfl rfl ⟨rfl, rfl, rfl, rfl, rfl⟩ rfl rfl rfl rfl rfl (by kernel_rfl) Try.func4 (by kernel_rfl)
    (of_decide_eq_true (by kernel_rfl)) (by unfold Func.isWrapper; first | (rw [if_pos (by decide +kernel)]; kernel_rfl) | (rw [if_neg (by decide +kernel)]; exact ⟨rfl, rfl⟩))
    (fun os started H enc _ => lifted os started H enc)
theorem proved : Rows.LogRoomSaid := over
#print axioms proved
end Go.Proofs.Ytfdccgpbdcdgmaa.logRoom
namespace Go.Proofs.Ytfdccgpbdcdgmaa
/-- The row, under a short name, for the claim. -/
theorem logRoom_holds : Rows.LogRoomSaid := logRoom.proved
end Go.Proofs.Ytfdccgpbdcdgmaa

-- By a program of this session (wip/tools/mkprint.py), for this claim.
import Derived.Test.YtbpblefamjmkjaaRows
import Derived.Test.YtbpblefamjmkjaaRd
import Derived.Test.YtbpblefamjmkjaaPEvictTouchesx2
import Derived.Test.YtbpblefamjmkjaaPureEvictTouches
import Derived.WalkKit
import Derived.ProofKit
import Derived.OpenShut
import Derived.ShutString
import Derived.ChangeOld
import Derived.Below
import Derived.SizedLaws
import Derived.Carry
namespace Go.Proofs.Ytbpblefamjmkjaa.evictTouches
open Go.ChangeShapes Go.WideShapes Go.ChangeAt Go.RowKit
open Go.ChangeMaps (open_string shut_string)
open Go.Proofs.YtbpblefamjmkjaaW.PrintWords Go.Proofs.Ytbpblefamjmkjaa.PEvictTouches
set_option linter.unusedVariables false
theorem own : ownKnob Try.prog.godebug = none := by kernel_rfl
theorem laidOut : laidOutB Try.prog = true := by kernel_rfl
theorem opens_k29 : Rd.Opens Try.prog 29 k29 (fun x => (x.f0.size ≤ 140737488351232 ∧ (Lit.int .i64 x.f1).wf = true ∧ (Lit.int .i64 x.f2).wf = true ∧ True)) := by
  have h := Rd.opens_struct (f := fun x : S29 => (x.f0, x.f1, x.f2, x.f3)) (fun (b : (ByteArray) × (Int) × (Int) × (Bool)) => (⟨b.1, b.2.1, b.2.2.1, b.2.2.2⟩ : S29)) (fun _ => rfl) Try.underlying29 (by kernel_rfl) (Rd.fs_cons rfl (by kernel_rfl) (Rd.opens_string Try.underlying9) (Rd.fs_cons rfl (by kernel_rfl) (Rd.opens_int Try.underlying3) (Rd.fs_cons rfl (by kernel_rfl) (Rd.opens_int Try.underlying3) (Rd.fs_last rfl (by kernel_rfl) (Rd.opens_bool Try.underlying4)))))
  exact h
set_option maxRecDepth 100000 in
theorem lifted (os : Os) (started : os.Started) (H : Type) (enc : TypeId × Value → H) :
    ReturnsInHanded {} Try.checked os 3 .any (Rows.evictTouchesSpec.pre6 enc Try.prog Try.f3 Rows.evictTouchesRow.domain false) (Rows.evictTouchesSpec.post enc Try.prog Try.f3 false true false false) := by
  refine returnsInHanded_of_change_sized (C := Try.checked) own started (by kernel_rfl) Try.func3
    (ChangeSpec.witness6 (enc := enc) (C := Try.checked) false ⟨#[], #[.slice none 0 0, .string ByteArray.empty], []⟩ 8 (by kernel_rfl) (by kernel_rfl) (by kernel_rfl) (by kernel_rfl)) ?_
  intro W base args ds gs before hval0 hW hcnd hsz0 _
  have hsz : (DataW.weightsEach Try.prog (Try.f3.params.toList ++ Rows.evictTouchesSpec.plain.varTypes Try.prog) (ds ++ gs)).all (· ≤ reachBytes) = true := hsz0
  have hval : ∀ (j : Nat) t v, Try.f3.params[j]? = some t → args[j]? = some v → Value.okWide Try.prog W .any base t v := hval0
  have hW' := hW
  obtain ⟨p, q, hA0, hV, rfl, hfz, hnd⟩ := hW
  have hA : DataW.TrodAll enc Try.prog W 0 (fun _ => true) true Try.f3.params.toList args.toList ds p := hA0
  rw [Try.params3] at hA hval hsz
  obtain ⟨v0, vs0, d0, ds0, p0, q0, hargs, rfl, rfl, h0, r0⟩ := trodAll_cons hA
  obtain ⟨v1, vs1, d1, ds1, p1, q1, rfl, rfl, rfl, h1, r1⟩ := trodAll_cons r0
  obtain ⟨rfl, rfl, rfl⟩ := trodAll_nil r1
  obtain rfl : args = #[v0, v1] := by cases args; simp_all
  obtain ⟨rfl, rfl⟩ := trodVars_none hV
  have lt0 : ∀ x ∈ p0, x.block < W.heap.size := by obtain ⟨m, hm⟩ := h0; exact DataW.trod_lt m _ _ _ hm
  have k0 := h0
  obtain ⟨A0, len0, cap0, rfl⟩ := okWide_slice Try.underlying22 (hval 0 22 v0 rfl rfl)
  obtain ⟨x0, hK0, y0⟩ := Rd.opens_at (Rd.opens_slice (B := 40) Try.underlying22 (by kernel_rfl) (by kernel_rfl) opens_k29) hsz (j := 0) (T := 22) rfl rfl h0
  obtain ⟨rfl, hc0, hr0⟩ := Rd.slice_of_K hK0
  obtain ⟨a1, rfl, rfl, rfl, y1⟩ := open_string Try.underlying9 (hval 1 9 v1 rfl rfl) h1
  have w1 : a1.size ≤ 140737488351232 := by
    have z := sized_string hsz (j := 1) (t := 9) rfl rfl
    rw [Array.length_toList] at z
    exact z
  clear hA0 hval0 hsz0 hsz
  refine (PEvictTouches.cubbylaw20_EvictTouches.walk Pure.EvictTouches A0 cap0 x0 a1 W hr0 hc0 y0 w1).mono fun e W' ⟨he, bel⟩ => ?_
  subst he
  exact ⟨_, rfl, _, _, _, [], _, [], hW', trodAll_mk1 (shut_bool Try.underlying4 _), (trodAll_cons_mk (Below.trod laidOut (by kernel_rfl) (of_decide_eq_true (by kernel_rfl)) k0 bel lt0) (trodAll_cons_mk (shut_string Try.underlying9 y1) trodAll_mk0)), rfl, bel.frame _, fun h => by cases h⟩
theorem over : Rows.evictTouchesRow.holds Try.pinned (OpenSpec.ofChange Rows.evictTouchesSpec) :=
  OpenClaim.holds_of_wide 3 Try.f3 rfl rfl rfl rfl rfl rfl rfl ⟨rfl, rfl, rfl, rfl, rfl⟩ rfl rfl rfl rfl rfl (by kernel_rfl) Try.func3 (by kernel_rfl)
    (of_decide_eq_true (by kernel_rfl)) (by unfold Func.isWrapper; first | (rw [if_pos (by decide +kernel)]; kernel_rfl) | (rw [if_neg (by decide +kernel)]; exact ⟨rfl, rfl⟩))
    (fun os started H enc _ => lifted os started H enc)
theorem proved : Rows.EvictTouchesSaid := over
#print axioms proved
end Go.Proofs.Ytbpblefamjmkjaa.evictTouches
namespace Go.Proofs.Ytbpblefamjmkjaa
/-- The row, under a short name, for the claim. -/
theorem evictTouches_holds : Rows.EvictTouchesSaid := evictTouches.proved
end Go.Proofs.Ytbpblefamjmkjaa

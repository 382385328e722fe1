-- By a program of this session (wip/tools/mkprint.py), for this claim.
import Derived.Test.YtbpblefamjmkjaaRows
import Derived.Test.YtbpblefamjmkjaaRd
import Derived.Test.YtbpblefamjmkjaaPEvictVictimsx5
import Derived.Test.YtbpblefamjmkjaaPureEvictVictims
import Derived.WalkKit
import Derived.ProofKit
import Derived.OpenShut
import Derived.ShutString
import Derived.ChangeOld
import Derived.Below
import Derived.SizedLaws
import Derived.Carry
namespace Go.Proofs.Ytbpblefamjmkjaa.evictVictims
open Go.ChangeShapes Go.WideShapes Go.ChangeAt Go.RowKit
open Go.ChangeMaps (open_string shut_string)
open Go.Proofs.YtbpblefamjmkjaaW.PrintWords Go.Proofs.Ytbpblefamjmkjaa.PEvictVictims
set_option linter.unusedVariables false
theorem own : ownKnob Try.prog.godebug = none := by kernel_rfl
theorem laidOut : laidOutB Try.prog = true := by kernel_rfl
theorem opens_k29 : Rd.Opens Try.prog 29 k29 (fun x => (x.f0.size ≤ 140737488351232 ∧ (Lit.int .i64 x.f1).wf = true ∧ (Lit.int .i64 x.f2).wf = true ∧ True)) := by
  have h := Rd.opens_struct (f := fun x : S29 => (x.f0, x.f1, x.f2, x.f3)) (fun (b : (ByteArray) × (Int) × (Int) × (Bool)) => (⟨b.1, b.2.1, b.2.2.1, b.2.2.2⟩ : S29)) (fun _ => rfl) Try.underlying29 (by kernel_rfl) (Rd.fs_cons rfl (by kernel_rfl) (Rd.opens_string Try.underlying9) (Rd.fs_cons rfl (by kernel_rfl) (Rd.opens_int Try.underlying3) (Rd.fs_cons rfl (by kernel_rfl) (Rd.opens_int Try.underlying3) (Rd.fs_last rfl (by kernel_rfl) (Rd.opens_bool Try.underlying4)))))
  exact h
set_option maxRecDepth 100000 in
theorem lifted (os : Os) (started : os.Started) (H : Type) (enc : TypeId × Value → H) :
    ReturnsInHanded {} Try.checked os 5 .any (Rows.evictVictimsSpec.pre6 enc Try.prog Try.f5 Rows.evictVictimsRow.domain false) (Rows.evictVictimsSpec.post enc Try.prog Try.f5 false true false false) := by
  refine returnsInHanded_of_change_sized (C := Try.checked) own started (by kernel_rfl) Try.func5
    (ChangeSpec.witness6 (enc := enc) (C := Try.checked) false ⟨#[], #[.slice none 0 0, .int .i64 0, .int .i64 0], []⟩ 8 (by kernel_rfl) (by kernel_rfl) (by kernel_rfl) (by kernel_rfl)) ?_
  intro W base args ds gs before hval0 hW hcnd hsz0 _
  have hsz : (DataW.weightsEach Try.prog (Try.f5.params.toList ++ Rows.evictVictimsSpec.plain.varTypes Try.prog) (ds ++ gs)).all (· ≤ reachBytes) = true := hsz0
  have hval : ∀ (j : Nat) t v, Try.f5.params[j]? = some t → args[j]? = some v → Value.okWide Try.prog W .any base t v := hval0
  have hW' := hW
  obtain ⟨p, q, hA0, hV, rfl, hfz, hnd⟩ := hW
  have hA : DataW.TrodAll enc Try.prog W 0 (fun _ => true) true Try.f5.params.toList args.toList ds p := hA0
  rw [Try.params5] at hA hval hsz
  obtain ⟨v0, vs0, d0, ds0, p0, q0, hargs, rfl, rfl, h0, r0⟩ := trodAll_cons hA
  obtain ⟨v1, vs1, d1, ds1, p1, q1, rfl, rfl, rfl, h1, r1⟩ := trodAll_cons r0
  obtain ⟨v2, vs2, d2, ds2, p2, q2, rfl, rfl, rfl, h2, r2⟩ := trodAll_cons r1
  obtain ⟨rfl, rfl, rfl⟩ := trodAll_nil r2
  obtain rfl : args = #[v0, v1, v2] := by cases args; simp_all
  obtain ⟨rfl, rfl⟩ := trodVars_none hV
  have lt0 : ∀ x ∈ p0, x.block < W.heap.size := by obtain ⟨m, hm⟩ := h0; exact DataW.trod_lt m _ _ _ hm
  have k0 := h0
  obtain ⟨A0, len0, cap0, rfl⟩ := okWide_slice Try.underlying22 (hval 0 22 v0 rfl rfl)
  obtain ⟨x0, hK0, y0⟩ := Rd.opens_at (Rd.opens_slice (B := 40) Try.underlying22 (by kernel_rfl) (by kernel_rfl) opens_k29) hsz (j := 0) (T := 22) rfl rfl h0
  obtain ⟨rfl, hc0, hr0⟩ := Rd.slice_of_K hK0
  obtain ⟨a1, rfl, rfl, rfl, w1⟩ := open_int Try.underlying3 (hval 1 3 v1 rfl rfl) h1
  obtain ⟨a2, rfl, rfl, rfl, w2⟩ := open_int Try.underlying3 (hval 2 3 v2 rfl rfl) h2
  clear hA0 hval0 hsz0 hsz
  refine (PEvictVictims.cubbylaw20_EvictVictims.walk Pure.EvictVictims A0 cap0 x0 a1 a2 W hr0 hc0 y0 w1 w2).mono fun e W' ⟨he, bel⟩ => ?_
  subst he
  exact ⟨_, rfl, _, _, _, [], _, [], hW', trodAll_mk1 (shut_bool Try.underlying4 _), (trodAll_cons_mk (Below.trod laidOut (by kernel_rfl) (of_decide_eq_true (by kernel_rfl)) k0 bel lt0) (trodAll_cons_mk (shut_int Try.underlying3 w1) (trodAll_cons_mk (shut_int Try.underlying3 w2) trodAll_mk0))), rfl, bel.frame _, fun h => by cases h⟩
theorem over : Rows.evictVictimsRow.holds Try.pinned (OpenSpec.ofChange Rows.evictVictimsSpec) :=
  OpenClaim.holds_of_wide 5 Try.f5 rfl rfl rfl rfl rfl rfl rfl ⟨rfl, rfl, rfl, rfl, rfl⟩ rfl rfl rfl rfl rfl (by kernel_rfl) Try.func5 (by kernel_rfl)
    (of_decide_eq_true (by kernel_rfl)) (by unfold Func.isWrapper; first | (rw [if_pos (by decide +kernel)]; kernel_rfl) | (rw [if_neg (by decide +kernel)]; exact ⟨rfl, rfl⟩))
    (fun os started H enc _ => lifted os started H enc)
theorem proved : Rows.EvictVictimsSaid := over
#print axioms proved
end Go.Proofs.Ytbpblefamjmkjaa.evictVictims
namespace Go.Proofs.Ytbpblefamjmkjaa
/-- The row, under a short name, for the claim. -/
theorem evictVictims_holds : Rows.EvictVictimsSaid := evictVictims.proved
end Go.Proofs.Ytbpblefamjmkjaa

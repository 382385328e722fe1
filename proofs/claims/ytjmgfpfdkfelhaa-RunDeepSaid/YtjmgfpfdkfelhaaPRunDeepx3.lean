-- By a program of this session (wip/tools/mkprint.py), for this claim.
import Derived.Test.YtjmgfpfdkfelhaaPRunDeepx0
import Derived.Test.YtjmgfpfdkfelhaaPRunDeepx1
import Derived.Test.YtjmgfpfdkfelhaaPRunDeepx2
namespace Go.Proofs.Ytjmgfpfdkfelhaa.PRunDeep
open Go.RowKit Go.Proofs.YtjmgfpfdkfelhaaW.PrintWords Go.Proofs.YtjmgfpfdkfelhaaW.PrintLast Go.Proofs.YtjmgfpfdkfelhaaW.PrintMore
attribute [local go_sem] max2_int min2_int max_two min_two max_three min_three max_four min_four   -- for this text's walks alone
set_option linter.unusedVariables false
set_option linter.unusedSimpArgs false

/-! ### run_Run: function 11 (by hand) -/
def run_Run.Z : Array Value := (Value.slice none 0 0 :: (List.replicate 256 (Value.int .i64 0) ++ [.slice none 0 0, .int .i64 0, .int .i64 0])).toArray
theorem run_Run.Z_size : run_Run.Z.size = 260 := by
  unfold run_Run.Z
  rw [List.size_toArray, List.length_cons, List.length_append, List.length_replicate]
  rfl
def run_Run.M0 : Rn.M := ⟨List.replicate 256 0, [], 0⟩
theorem run_Run.Z_set (A : Option Addr) (n c : Nat) (fuel : Int) : (run_Run.Z.setIfInBounds 0 (.slice A n c)).setIfInBounds 258 (.int .i64 fuel) = Rn.arr A n c run_Run.M0 (.slice none 0 0) fuel := by
  unfold run_Run.Z Rn.arr
  rw [show ((Value.slice none 0 0 :: (List.replicate 256 (Value.int .i64 0) ++ [.slice none 0 0, .int .i64 0, .int .i64 0])).toArray.setIfInBounds 0 (.slice A n c)) = (Value.slice A n c :: (List.replicate 256 (Value.int .i64 0) ++ [.slice none 0 0, .int .i64 0, .int .i64 0])).toArray from by rw [List.setIfInBounds_toArray, List.set_cons_zero], List.setIfInBounds_toArray, List.set_cons_succ, List.set_append_right _ _ (by rw [List.length_replicate]; decide), List.length_replicate]
  have e : run_Run.M0.mem.map (Value.int .i64) = List.replicate 256 (Value.int .i64 0) := List.map_replicate
  rw [e]
  rfl
/-- Memory as it is filled. -/
def run_Run.filled (mem : List Int) (k : Nat) : List Int := (mem.take k).map (· % 65536) ++ List.replicate (256 - k) 0
theorem run_Run.memC {W : World} {base gm : Nat} {A : Option Addr} {n c : Nat} {fuel : Int} {m : Rn.M} {tv : Value} (h : Rn.St W base gm A n c fuel m tv) : (Kd.int .i64).C W (some ⟨gm, 1, none⟩) 256 m.mem := by
  refine ⟨h.hm, by decide, fun _ => ⟨_, rfl, fun j p hj => ⟨[.int .i64 p], rfl, rfl, fun i u hu => ?_⟩⟩⟩
  have e : (Kd.int .i64).sz = 1 := rfl
  have hjl := (List.getElem?_eq_some_iff.1 hj).1
  rw [h.hm] at hjl
  cases i with
  | zero =>
    rw [e, Nat.mul_one, Nat.add_zero]
    have ea : (⟨gm, 1, none⟩ : Addr).add j = ⟨gm, 1 + j, none⟩ := by unfold Addr.add; split <;> simp_all
    rw [ea, h.atm j hjl, List.getD_eq_getElem?_getD, hj]
    exact hu
  | succ i => cases hu
theorem run_Run.clone {W : World} {base gm : Nat} {A : Option Addr} {n c : Nat} {fuel : Int} {m : Rn.M} {tv : Value} (h : Rn.St W base gm A n c fuel m tv) : Calls Try.prog 14 #[.slice (some ⟨gm, 1, none⟩) 256 256] W fun e w' => ∃ v0_ : Value, e = .returned (v0_) ∧ Kd.R (Kd.int .i64) 3 w' W.heap.size (fun _ => True) v0_ m.mem ∧ Below W.heap.size W w' := by
  have hm := h.hm
  have hc := run_Run.memC h
  have hcl : slices_Clone_int_int.f m.mem = some m.mem := by unfold slices_Clone_int_int.f; rw [if_pos (by omega)]
  have e := slices_Clone_int_int.calls (some ⟨gm, 1, none⟩) 256 m.mem m.mem W (by rw [hm]; exact hc) (by omega) hcl
  rw [hm] at e
  exact e
theorem run_Run.lift {P : Program} {c1 c2 : Code} {Q : Exit → Act → List Frame → World → Prop} {a : Act} {cs : List Frame} {w : World} (Q0 : Exit → Act → World → Prop) (hQ : ∀ e a' w', Q0 e a' w' → Q e a' cs w') (h : c1.wp P (Exit.then (c2.wp P Q0) Q0) a w) : c1.wpS P (Exit.thenS (c2.wpS P Q) Q) a cs w := by
  refine wpS_of_wp (wp_mono h (fun e a' w' h' => ?_))
  cases e with
  | normal => exact wpS_of_wp (wp_mono h' (fun e a w q => hQ e a w q))
  | _ => exact hQ _ _ _ h'
theorem run_Run.gset (W : World) (b k : Nat) (v : Value) : W.grownBy (W.setCell ⟨b, k, none⟩ v) (some b) := by
  have h := (Below.refl 0 W).setCell (p := ⟨b, k, none⟩) (Nat.zero_le _) v
  exact ⟨h.os, h.tape, h.output, h.size, fun i _ hi => Below.heap_setCell W _ v i (fun e => hi (by rw [e]))⟩
theorem run_Run.grown_below {W W' : World} {row : Option Nat} (h : Below W.heap.size W W') : W.grownBy W' row := ⟨h.os, h.tape, h.output, h.size, fun i hi _ => h.block i hi⟩
theorem run_Run.neO : ∀ q, q ∈ 3 :: (Kd.int .i64).E → q ≠ 37 := by
  intro q hq
  simp [Kd.int, Kd.scalar] at hq
  omega
theorem run_Run.set3 {W : World} {base ob : Nat} {cs : Array Value} {mv : Value} {xs : List Int} (h : Kd.R (Kd.int .i64) 3 W base (fun _ => True) mv xs) (hb : W.heap[ob]? = some (.cells cs 37 (0, 0))) (v2 v3 v4 : Value) : Kd.R (Kd.int .i64) 3 (((W.setCell ⟨ob, 2, none⟩ v2).setCell ⟨ob, 3, none⟩ v3).setCell ⟨ob, 4, none⟩ v4) base (fun _ => True) mv xs :=
  Kd.R_set (Kd.R_set (Kd.R_set h hb run_Run.neO 2 v2) (blk_set hb 2 v2) run_Run.neO 3 v3) (blk_set (blk_set hb 2 v2) 3 v3) run_Run.neO 4 v4
/-- The outcome's block. -/
def run_Run.Ob (W : World) (ob : Nat) (k v : Int) (tv mv : Value) (st : Int) : Prop := W.heap[ob]? = some (.cells #[.int .i64 k, .int .i64 v, tv, mv, .int .i64 st] 37 (0, 0))
set_option maxHeartbeats 4000000 in
set_option maxRecDepth 100000 in
theorem run_Run.d_ret (ob mb base gm : Nat) (A : Option Addr) (n c : Nat) (fuel : Int) (m : Rn.M) (tv : Value) (k v : Int) (w : World) (hs : Rn.St w base gm A n c fuel m tv) (hm : w.cell? ⟨mb, 0, none⟩ = some (.pointer (some ⟨gm, 0, none⟩))) (ho : run_Run.Ob w ob k v (.slice none 0 0) (.slice none 0 0) 0) (hog : ob ≠ gm) (hob : some ob ≠ tv.ownBlock) :
    CallsD Try.prog 13 #[.pointer (some ⟨ob, 0, none⟩), .pointer (some ⟨mb, 0, none⟩)] .returning w fun e u' w' => e = .returned (.tuple #[]) ∧ u' = .returning ∧ ∃ mv, run_Run.Ob w' ob k v tv mv m.steps ∧ Kd.R (Kd.int .i64) 3 w' w.heap.size (fun _ => True) mv m.mem ∧ w.grownBy w' (some ob) := by
  refine callsD_of_wpS Try.func13 rfl fun c₀ cs hu => ?_
  simp only [Try.ntmps13, List.size_toArray, List.length_cons, List.length_nil, Nat.reduceAdd, Nat.reduceSub, Array.replicate_succ, Array.replicate_zero, List.push_toArray, List.append_toArray, List.nil_append, List.cons_append]
  apply wpS_seq
  apply wpS_seq
  apply wpS_region
  simp [wpOpsS, go_sem, recoverD, hu, Exit.thenS]
  refine run_Run.lift (fun e a' w' => bodyPostS _ _ c₀ cs _ e a' (c₀ :: cs) w') (fun _ _ _ h => h) ?_
  generalize hQ : (fun (e : Exit) (a' : Act) (w' : World) => bodyPostS Try.prog Try.f13 c₀ cs _ e a' (c₀ :: cs) w') = Q0
  obtain ⟨At, ct, etv⟩ := Kd.R_slice hs.tr
  subst etv
  have HS := Aside0.mk hs.drew
  have HO : Aside0 (w.drew.heap[ob]? = some (.cells #[.int .i64 k, .int .i64 v, .slice none 0 0, .slice none 0 0, .int .i64 0] 37 (0, 0))) := ⟨ho⟩
  have y0 := hm
  have y1 := hs.at257
  have y2 := hs.at259
  clear hs hm ho
  have HQ := Lib.hid hQ
  clear hQ
  go_wp2_with (fail)
  have hq := HQ.out
  clear HQ
  subst hq
  -- REGION 11 A BEGINS
  refine start_ (n := 19) (S := fun w' => w'.cell? ⟨mb, 0, none⟩ = some (.pointer (some ⟨gm, 0, none⟩)) ∧ w'.cell? ⟨gm, 257, none⟩ = some (.slice At m.told.length ct) ∧ w'.cell? ⟨gm, 259, none⟩ = some (.int .i64 m.steps)) (ds := [14, 16, 18]) #[false, false, false, false, false, false, false, false, false, false, false, false, false, false, false, false, false, false, false] (by kernel_rfl) rfl rfl ⟨y0, y1, y2⟩ (fun hHeld => ?_)
  refine take_ (i := 0) (N := some 17) (v := ?_) (a' := ?_) #[true, false, false, false, false, false, false, false, false, false, false, false, false, false, false, false, false, false, false] rfl rfl (by kernel_rfl) (fun _ _ _ h => h) (Or.inl ⟨by rfl, ?_⟩) hHeld ?_ ?_
  rotate_left
  · rintro w' ⟨s0, s1, s2⟩
    go_simp
    with_reducible rfl
  rotate_left
  · simp only [Act.put, List.setIfInBounds_toArray, List.set_cons_zero, List.set_cons_succ, i64_w, i32_w]
    rfl
  refine pure_ (i := 1) (N := some 18) (v := ?_) (a' := ?_) #[true, true, false, false, false, false, false, false, false, false, false, false, false, false, false, false, false, false, false] rfl rfl (by kernel_rfl) (fun _ _ _ h => h) (Or.inl ⟨by rfl, ?_⟩) ?_ ?_
  rotate_left
  · intro w'
    go_simp
    with_reducible rfl
  rotate_left
  · simp only [Act.put, List.setIfInBounds_toArray, List.set_cons_zero, List.set_cons_succ, i64_w, i32_w]
    rfl
  refine pure_ (i := 2) (N := some 19) (v := ?_) (a' := ?_) #[true, true, true, false, false, false, false, false, false, false, false, false, false, false, false, false, false, false, false] rfl rfl (by kernel_rfl) (fun _ _ _ h => h) (Or.inl ⟨by rfl, ?_⟩) ?_ ?_
  rotate_left
  · intro w'
    go_simp
    with_reducible rfl
  rotate_left
  · simp only [Act.put, List.setIfInBounds_toArray, List.set_cons_zero, List.set_cons_succ, i64_w, i32_w]
    rfl
  refine take_ (i := 3) (N := some 20) (v := ?_) (a' := ?_) #[true, true, true, true, false, false, false, false, false, false, false, false, false, false, false, false, false, false, false] rfl rfl (by kernel_rfl) (fun _ _ _ h => h) (Or.inl ⟨by rfl, ?_⟩) hHeld ?_ ?_
  rotate_left
  · rintro w' ⟨s0, s1, s2⟩
    go_simp
    with_reducible rfl
  rotate_left
  · simp only [Act.put, List.setIfInBounds_toArray, List.set_cons_zero, List.set_cons_succ, i64_w, i32_w]
    rfl
  refine take_ (i := 4) (N := some 21) (v := ?_) (a' := ?_) #[true, true, true, true, true, false, false, false, false, false, false, false, false, false, false, false, false, false, false] rfl rfl (by kernel_rfl) (fun _ _ _ h => h) (Or.inl ⟨by rfl, ?_⟩) hHeld ?_ ?_
  rotate_left
  · rintro w' ⟨s0, s1, s2⟩
    go_simp
    with_reducible rfl
  rotate_left
  · simp only [Act.put, List.setIfInBounds_toArray, List.set_cons_zero, List.set_cons_succ, i64_w, i32_w]
    rfl
  refine pure_ (i := 5) (N := some 22) (v := ?_) (a' := ?_) #[true, true, true, true, true, true, false, false, false, false, false, false, false, false, false, false, false, false, false] rfl rfl (by kernel_rfl) (fun _ _ _ h => h) (Or.inl ⟨by rfl, ?_⟩) ?_ ?_
  rotate_left
  · intro w'
    go_simp
    with_reducible rfl
  rotate_left
  · simp only [Act.put, List.setIfInBounds_toArray, List.set_cons_zero, List.set_cons_succ, i64_w, i32_w]
    rfl
  refine pure_ (i := 6) (N := some 23) (v := ?_) (a' := ?_) #[true, true, true, true, true, true, true, false, false, false, false, false, false, false, false, false, false, false, false] rfl rfl (by kernel_rfl) (fun _ _ _ h => h) (Or.inl ⟨by rfl, ?_⟩) ?_ ?_
  rotate_left
  · intro w'
    go_simp
    with_reducible rfl
  rotate_left
  · simp only [Act.put, List.setIfInBounds_toArray, List.set_cons_zero, List.set_cons_succ, i64_w, i32_w]
    rfl
  refine pure_ (i := 7) (N := some 24) (v := ?_) (a' := ?_) #[true, true, true, true, true, true, true, true, false, false, false, false, false, false, false, false, false, false, false] rfl rfl (by kernel_rfl) (fun _ _ _ h => h) (Or.inl ⟨by rfl, ?_⟩) ?_ ?_
  rotate_left
  · intro w'
    go_simp
    with_reducible rfl
  rotate_left
  · simp only [Act.put, List.setIfInBounds_toArray, List.set_cons_zero, List.set_cons_succ, i64_w, i32_w]
    rfl
  refine take_ (i := 9) (N := some 26) (v := ?_) (a' := ?_) #[true, true, true, true, true, true, true, true, false, true, false, false, false, false, false, false, false, false, false] rfl rfl (by kernel_rfl) (fun _ _ _ h => h) (Or.inl ⟨by rfl, ?_⟩) hHeld ?_ ?_
  rotate_left
  · rintro w' ⟨s0, s1, s2⟩
    go_simp
    with_reducible rfl
  rotate_left
  · simp only [Act.put, List.setIfInBounds_toArray, List.set_cons_zero, List.set_cons_succ, i64_w, i32_w]
    rfl
  refine pure_ (i := 10) (N := some 27) (v := ?_) (a' := ?_) #[true, true, true, true, true, true, true, true, false, true, true, false, false, false, false, false, false, false, false] rfl rfl (by kernel_rfl) (fun _ _ _ h => h) (Or.inl ⟨by rfl, ?_⟩) ?_ ?_
  rotate_left
  · intro w'
    go_simp
    with_reducible rfl
  rotate_left
  · simp only [Act.put, List.setIfInBounds_toArray, List.set_cons_zero, List.set_cons_succ, i64_w, i32_w]
    rfl
  refine pure_ (i := 11) (N := some 28) (v := ?_) (a' := ?_) #[true, true, true, true, true, true, true, true, false, true, true, true, false, false, false, false, false, false, false] rfl rfl (by kernel_rfl) (fun _ _ _ h => h) (Or.inl ⟨by rfl, ?_⟩) ?_ ?_
  rotate_left
  · intro w'
    go_simp
    with_reducible rfl
  rotate_left
  · simp only [Act.put, List.setIfInBounds_toArray, List.set_cons_zero, List.set_cons_succ, i64_w, i32_w]
    rfl
  refine take_ (i := 12) (N := some 29) (v := ?_) (a' := ?_) #[true, true, true, true, true, true, true, true, false, true, true, true, true, false, false, false, false, false, false] rfl rfl (by kernel_rfl) (fun _ _ _ h => h) (Or.inl ⟨by rfl, ?_⟩) hHeld ?_ ?_
  rotate_left
  · rintro w' ⟨s0, s1, s2⟩
    go_simp
    with_reducible rfl
  rotate_left
  · simp only [Act.put, List.setIfInBounds_toArray, List.set_cons_zero, List.set_cons_succ, i64_w, i32_w]
    rfl
  refine one_ (i := 8) (N := some 25) #[true, true, true, true, true, true, true, true, true, true, true, true, true, false, false, false, false, false, false] rfl rfl (by kernel_rfl) (by decide) (fun K hK => ?_)
  refine goes_ Try.func14 (by kernel_rfl) rfl #[.slice (some ⟨gm, 1, none⟩) 256 256] (by rfl) rfl rfl (by simp only [List.map_toArray, List.map_cons, List.map_nil]; rfl) ?_
  with_reducible refine (run_Run.clone HS.out).mono ?_
  rintro e w3 ⟨mv, rfl, hr3, hb3⟩
  refine ⟨_, rfl, ?_⟩
  obtain ⟨Am, cm, emv⟩ := Kd.R_slice hr3
  subst emv
  have HMV := Aside0.mk hr3
  have HB3 := Aside0.mk hb3
  have HO := Aside0.mk ((hb3.block ob (Array.getElem?_eq_some_iff.1 HO.out).1).trans HO.out)
  have HS3 := Aside0.mk (HS.out.below hb3)
  have y0 := (hb3.cell (World.block_lt_of_cell? _ _ y0)).trans y0
  have y1 := HS3.out.at257
  have y2 := HS3.out.at259
  have o2 : w3.cell? ⟨ob, 2, none⟩ = some (.slice none 0 0) := cell_of_row w3 ob 2 _ _ _ HO.out
  have o3 : w3.cell? ⟨ob, 3, none⟩ = some (.slice none 0 0) := cell_of_row w3 ob 3 _ _ _ HO.out
  have o4 : w3.cell? ⟨ob, 4, none⟩ = some (.int .i64 0) := cell_of_row w3 ob 4 _ _ _ HO.out
  have ofz : ∀ i, w3.frozen? ⟨ob, i, none⟩ = false := fun i => by simp only [World.frozen?]; rw [HO.out]; rfl
  clear hr3 hb3
  refine hK.out _ _ ⟨y0, y1, y2⟩ (fun hHeld => ?_)
  clear hK K
  refine norm_ (a' := ?_) ?_ ?_
  rotate_left
  · show Act.put _ (some 25) _ = _
    simp only [Act.put, List.setIfInBounds_toArray, List.set_cons_zero, List.set_cons_succ, i64_w, i32_w]
    rfl
  refine pure_ (i := 13) (N := some 30) (v := ?_) (a' := ?_) #[true, true, true, true, true, true, true, true, true, true, true, true, true, true, false, false, false, false, false] rfl rfl (by kernel_rfl) (fun _ _ _ h => h) (Or.inl ⟨by rfl, ?_⟩) ?_ ?_
  rotate_left
  · intro w'
    go_simp
    with_reducible rfl
  rotate_left
  · simp only [Act.put, List.setIfInBounds_toArray, List.set_cons_zero, List.set_cons_succ, i64_w, i32_w]
    rfl
  refine last_ (i := 14) (N := none) #[true, true, true, true, true, true, true, true, true, true, true, true, true, true, true, false, false, false, false] rfl rfl (by kernel_rfl) (by decide) (fun K hK => ?_)
  refine skip_ (w1 := ?_) (by rfl) rfl ?_ ?_
  rotate_left
  · go_simp
    rfl
  refine hK.out _ _ ?_
  clear hK K
  refine pure_ (i := 15) (N := some 31) (v := ?_) (a' := ?_) #[true, true, true, true, true, true, true, true, true, true, true, true, true, true, true, true, false, false, false] rfl rfl (by kernel_rfl) (fun _ _ _ h => h) (Or.inl ⟨by rfl, ?_⟩) ?_ ?_
  rotate_left
  · intro w'
    go_simp
    with_reducible rfl
  rotate_left
  · simp only [Act.put, List.setIfInBounds_toArray, List.set_cons_zero, List.set_cons_succ, i64_w, i32_w]
    rfl
  refine last_ (i := 16) (N := none) #[true, true, true, true, true, true, true, true, true, true, true, true, true, true, true, true, true, false, false] rfl rfl (by kernel_rfl) (by decide) (fun K hK => ?_)
  refine skip_ (w1 := ?_) (by rfl) rfl ?_ ?_
  rotate_left
  · go_simp
    rfl
  refine hK.out _ _ ?_
  clear hK K
  refine pure_ (i := 17) (N := some 32) (v := ?_) (a' := ?_) #[true, true, true, true, true, true, true, true, true, true, true, true, true, true, true, true, true, true, false] rfl rfl (by kernel_rfl) (fun _ _ _ h => h) (Or.inl ⟨by rfl, ?_⟩) ?_ ?_
  rotate_left
  · intro w'
    go_simp
    with_reducible rfl
  rotate_left
  · simp only [Act.put, List.setIfInBounds_toArray, List.set_cons_zero, List.set_cons_succ, i64_w, i32_w]
    rfl
  refine last_ (i := 18) (N := none) #[true, true, true, true, true, true, true, true, true, true, true, true, true, true, true, true, true, true, true] rfl rfl (by kernel_rfl) (by decide) (fun K hK => ?_)
  refine skip_ (w1 := ?_) (by rfl) rfl ?_ ?_
  rotate_left
  · go_simp
    rfl
  refine hK.out _ _ ?_
  clear hK K
  refine done_ (by kernel_rfl) ?_
  -- REGION 11 A ENDS
  have hout : run_Run.Ob (((w3.setCell ⟨ob, 2, none⟩ (.slice At m.told.length ct)).setCell ⟨ob, 3, none⟩ (.slice Am m.mem.length cm)).setCell ⟨ob, 4, none⟩ (.int .i64 m.steps)) ob k v (.slice At m.told.length ct) (.slice Am m.mem.length cm) m.steps := by
    have h1 := blk_set HO.out 2 (.slice At m.told.length ct)
    have h2 := blk_set h1 3 (.slice Am m.mem.length cm)
    have h3 := blk_set h2 4 (.int .i64 m.steps)
    exact h3
  have hg : w.grownBy (((w3.setCell ⟨ob, 2, none⟩ (.slice At m.told.length ct)).setCell ⟨ob, 3, none⟩ (.slice Am m.mem.length cm)).setCell ⟨ob, 4, none⟩ (.int .i64 m.steps)) (some ob) := (Hw.grown_drew w (some ob)).trans (run_Run.grown_below HB3.out |>.trans ((run_Run.gset _ ob 2 _).trans ((run_Run.gset _ ob 3 _).trans (run_Run.gset _ ob 4 _))))
  have hR : Kd.R (Kd.int .i64) 3 (((w3.setCell ⟨ob, 2, none⟩ (.slice At m.told.length ct)).setCell ⟨ob, 3, none⟩ (.slice Am m.mem.length cm)).setCell ⟨ob, 4, none⟩ (.int .i64 m.steps)) w.heap.size (fun _ => True) (.slice Am m.mem.length cm) m.mem := run_Run.set3 HMV.out HO.out _ _ _
  go_wp2_with (fail)
  refine ⟨rfl, .returning, ?_, .tuple #[], results_none rfl _ _ _, rfl, rfl, _, hout, hR, hg⟩
  cases c₀
  simp only at hu
  subst hu
  rfl
set_option maxHeartbeats 4000000 in
set_option maxRecDepth 100000 in
theorem run_Run.d_trap (ob mb base gm : Nat) (A : Option Addr) (n c : Nat) (fuel : Int) (m : Rn.M) (tv : Value) (k v : Int) (w : World) (hs : Rn.St w base gm A n c fuel m tv) (hm : w.cell? ⟨mb, 0, none⟩ = some (.pointer (some ⟨gm, 0, none⟩))) (ho : run_Run.Ob w ob k v (.slice none 0 0) (.slice none 0 0) 0) (hog : ob ≠ gm) (hob : some ob ≠ tv.ownBlock) :
    CallsD Try.prog 13 #[.pointer (some ⟨ob, 0, none⟩), .pointer (some ⟨mb, 0, none⟩)] (.panicking [{ v := .iface 47 (.agg #[]), recovered := false }]) w fun e u' w' => e = .returned (.tuple #[]) ∧ u' = .panicking [{ v := .iface 47 (.agg #[]), recovered := true }] ∧ ∃ mv, run_Run.Ob w' ob 2 v tv mv m.steps ∧ Kd.R (Kd.int .i64) 3 w' w.heap.size (fun _ => True) mv m.mem ∧ w.grownBy w' (some ob) := by
  refine callsD_of_wpS Try.func13 rfl fun c₀ cs hu => ?_
  simp only [Try.ntmps13, List.size_toArray, List.length_cons, List.length_nil, Nat.reduceAdd, Nat.reduceSub, Array.replicate_succ, Array.replicate_zero, List.push_toArray, List.append_toArray, List.nil_append, List.cons_append]
  apply wpS_seq
  apply wpS_seq
  apply wpS_region
  simp [wpOpsS, go_sem, recoverD, hu, Exit.thenS]
  refine run_Run.lift (fun e a' w' => bodyPostS _ _ c₀ cs _ e a' ({ c₀ with mode := .panicking [{ v := .iface 47 (.agg #[]), recovered := true }] } :: cs) w') (fun _ _ _ h => h) ?_
  generalize hQ : (fun (e : Exit) (a' : Act) (w' : World) => bodyPostS Try.prog Try.f13 c₀ cs _ e a' ({ c₀ with mode := .panicking [{ v := .iface 47 (.agg #[]), recovered := true }] } :: cs) w') = Q0
  obtain ⟨At, ct, etv⟩ := Kd.R_slice hs.tr
  subst etv
  have holt : ob < w.heap.size := (Array.getElem?_eq_some_iff.1 ho).1
  have o0 : w.cell? ⟨ob, 0, none⟩ = some (.int .i64 k) := cell_of_row w ob 0 _ _ _ ho
  have oz : w.frozen? ⟨ob, 0, none⟩ = false := by simp only [World.frozen?]; rw [show w.heap[ob]? = _ from ho]; rfl
  have o0a := Hw.cell_al o0 (.cells #[] 47)
  have oza := Hw.frozen_al (a := ⟨ob, 0, none⟩) holt oz (.cells #[] 47)
  have HS := Aside0.mk ((hs.nset ob 0 hog hob (.int .i64 2)).alloc (.cells #[] 47)).drew
  have HO : Aside0 (((w.setCell ⟨ob, 0, none⟩ (.int .i64 2)).alloc (.cells #[] 47)).drew.heap[ob]? = some (.cells #[.int .i64 2, .int .i64 v, .slice none 0 0, .slice none 0 0, .int .i64 0] 37 (0, 0))) := ⟨Hw.blk_al (blk_set ho 0 (.int .i64 2)) (.cells #[] 47)⟩
  have HG1 : Aside0 (w.grownBy ((w.setCell ⟨ob, 0, none⟩ (.int .i64 2)).alloc (.cells #[] 47)) (some ob)) := ⟨(run_Run.gset _ ob 0 _).trans (run_Run.grown_below ((Below.refl _ _).alloc (Nat.le_refl _) (.cells #[] 47)))⟩
  have hmne : mb ≠ ob := by
    rintro rfl
    rw [cell_of_row w mb 0 _ _ _ ho] at hm
    cases hm
  have y0 : ((w.setCell ⟨ob, 0, none⟩ (.int .i64 2)).alloc (.cells #[] 47)).cell? ⟨mb, 0, none⟩ = some (.pointer (some ⟨gm, 0, none⟩)) := by
    refine Hw.cell_al ?_ (.cells #[] 47)
    rw [World.cell?_setCell_other _ _ _ _ (by intro e; injection e with e; exact hmne e.symm)]
    exact hm
  have y1 : ((w.setCell ⟨ob, 0, none⟩ (.int .i64 2)).alloc (.cells #[] 47)).cell? ⟨gm, 257, none⟩ = some (.slice At m.told.length ct) := HS.out.at257
  have y2 : ((w.setCell ⟨ob, 0, none⟩ (.int .i64 2)).alloc (.cells #[] 47)).cell? ⟨gm, 259, none⟩ = some (.int .i64 m.steps) := HS.out.at259
  clear hs hm ho
  have HQ := Lib.hid hQ
  clear hQ
  have hta : ∀ w : World, (Instr.typeAssert (.iface 47 (.agg #[])) 20 47 true).run Try.prog w = .ok (.tuple #[.agg #[], .bool true]) w := fun w => by kernel_rfl
  go_wp2_with (fail)
  clear o0 oz o0a oza
  have hsz : w.heap.size ≤ ((w.setCell ⟨ob, 0, none⟩ (.int .i64 2)).alloc (.cells #[] 47)).heap.size := HG1.out.size
  generalize ((w.setCell ⟨ob, 0, none⟩ (.int .i64 2)).alloc (.cells #[] 47)) = W9 at HS HO HG1 y0 y1 y2 hsz ⊢
  have hq := HQ.out
  clear HQ
  subst hq
  -- REGION 11 B BEGINS
  refine start_ (n := 19) (S := fun w' => w'.cell? ⟨mb, 0, none⟩ = some (.pointer (some ⟨gm, 0, none⟩)) ∧ w'.cell? ⟨gm, 257, none⟩ = some (.slice At m.told.length ct) ∧ w'.cell? ⟨gm, 259, none⟩ = some (.int .i64 m.steps)) (ds := [14, 16, 18]) #[false, false, false, false, false, false, false, false, false, false, false, false, false, false, false, false, false, false, false] (by kernel_rfl) rfl rfl ⟨y0, y1, y2⟩ (fun hHeld => ?_)
  refine take_ (i := 0) (N := some 17) (v := ?_) (a' := ?_) #[true, false, false, false, false, false, false, false, false, false, false, false, false, false, false, false, false, false, false] rfl rfl (by kernel_rfl) (fun _ _ _ h => h) (Or.inl ⟨by rfl, ?_⟩) hHeld ?_ ?_
  rotate_left
  · rintro w' ⟨s0, s1, s2⟩
    go_simp
    with_reducible rfl
  rotate_left
  · simp only [Act.put, List.setIfInBounds_toArray, List.set_cons_zero, List.set_cons_succ, i64_w, i32_w]
    rfl
  refine pure_ (i := 1) (N := some 18) (v := ?_) (a' := ?_) #[true, true, false, false, false, false, false, false, false, false, false, false, false, false, false, false, false, false, false] rfl rfl (by kernel_rfl) (fun _ _ _ h => h) (Or.inl ⟨by rfl, ?_⟩) ?_ ?_
  rotate_left
  · intro w'
    go_simp
    with_reducible rfl
  rotate_left
  · simp only [Act.put, List.setIfInBounds_toArray, List.set_cons_zero, List.set_cons_succ, i64_w, i32_w]
    rfl
  refine pure_ (i := 2) (N := some 19) (v := ?_) (a' := ?_) #[true, true, true, false, false, false, false, false, false, false, false, false, false, false, false, false, false, false, false] rfl rfl (by kernel_rfl) (fun _ _ _ h => h) (Or.inl ⟨by rfl, ?_⟩) ?_ ?_
  rotate_left
  · intro w'
    go_simp
    with_reducible rfl
  rotate_left
  · simp only [Act.put, List.setIfInBounds_toArray, List.set_cons_zero, List.set_cons_succ, i64_w, i32_w]
    rfl
  refine take_ (i := 3) (N := some 20) (v := ?_) (a' := ?_) #[true, true, true, true, false, false, false, false, false, false, false, false, false, false, false, false, false, false, false] rfl rfl (by kernel_rfl) (fun _ _ _ h => h) (Or.inl ⟨by rfl, ?_⟩) hHeld ?_ ?_
  rotate_left
  · rintro w' ⟨s0, s1, s2⟩
    go_simp
    with_reducible rfl
  rotate_left
  · simp only [Act.put, List.setIfInBounds_toArray, List.set_cons_zero, List.set_cons_succ, i64_w, i32_w]
    rfl
  refine take_ (i := 4) (N := some 21) (v := ?_) (a' := ?_) #[true, true, true, true, true, false, false, false, false, false, false, false, false, false, false, false, false, false, false] rfl rfl (by kernel_rfl) (fun _ _ _ h => h) (Or.inl ⟨by rfl, ?_⟩) hHeld ?_ ?_
  rotate_left
  · rintro w' ⟨s0, s1, s2⟩
    go_simp
    with_reducible rfl
  rotate_left
  · simp only [Act.put, List.setIfInBounds_toArray, List.set_cons_zero, List.set_cons_succ, i64_w, i32_w]
    rfl
  refine pure_ (i := 5) (N := some 22) (v := ?_) (a' := ?_) #[true, true, true, true, true, true, false, false, false, false, false, false, false, false, false, false, false, false, false] rfl rfl (by kernel_rfl) (fun _ _ _ h => h) (Or.inl ⟨by rfl, ?_⟩) ?_ ?_
  rotate_left
  · intro w'
    go_simp
    with_reducible rfl
  rotate_left
  · simp only [Act.put, List.setIfInBounds_toArray, List.set_cons_zero, List.set_cons_succ, i64_w, i32_w]
    rfl
  refine pure_ (i := 6) (N := some 23) (v := ?_) (a' := ?_) #[true, true, true, true, true, true, true, false, false, false, false, false, false, false, false, false, false, false, false] rfl rfl (by kernel_rfl) (fun _ _ _ h => h) (Or.inl ⟨by rfl, ?_⟩) ?_ ?_
  rotate_left
  · intro w'
    go_simp
    with_reducible rfl
  rotate_left
  · simp only [Act.put, List.setIfInBounds_toArray, List.set_cons_zero, List.set_cons_succ, i64_w, i32_w]
    rfl
  refine pure_ (i := 7) (N := some 24) (v := ?_) (a' := ?_) #[true, true, true, true, true, true, true, true, false, false, false, false, false, false, false, false, false, false, false] rfl rfl (by kernel_rfl) (fun _ _ _ h => h) (Or.inl ⟨by rfl, ?_⟩) ?_ ?_
  rotate_left
  · intro w'
    go_simp
    with_reducible rfl
  rotate_left
  · simp only [Act.put, List.setIfInBounds_toArray, List.set_cons_zero, List.set_cons_succ, i64_w, i32_w]
    rfl
  refine take_ (i := 9) (N := some 26) (v := ?_) (a' := ?_) #[true, true, true, true, true, true, true, true, false, true, false, false, false, false, false, false, false, false, false] rfl rfl (by kernel_rfl) (fun _ _ _ h => h) (Or.inl ⟨by rfl, ?_⟩) hHeld ?_ ?_
  rotate_left
  · rintro w' ⟨s0, s1, s2⟩
    go_simp
    with_reducible rfl
  rotate_left
  · simp only [Act.put, List.setIfInBounds_toArray, List.set_cons_zero, List.set_cons_succ, i64_w, i32_w]
    rfl
  refine pure_ (i := 10) (N := some 27) (v := ?_) (a' := ?_) #[true, true, true, true, true, true, true, true, false, true, true, false, false, false, false, false, false, false, false] rfl rfl (by kernel_rfl) (fun _ _ _ h => h) (Or.inl ⟨by rfl, ?_⟩) ?_ ?_
  rotate_left
  · intro w'
    go_simp
    with_reducible rfl
  rotate_left
  · simp only [Act.put, List.setIfInBounds_toArray, List.set_cons_zero, List.set_cons_succ, i64_w, i32_w]
    rfl
  refine pure_ (i := 11) (N := some 28) (v := ?_) (a' := ?_) #[true, true, true, true, true, true, true, true, false, true, true, true, false, false, false, false, false, false, false] rfl rfl (by kernel_rfl) (fun _ _ _ h => h) (Or.inl ⟨by rfl, ?_⟩) ?_ ?_
  rotate_left
  · intro w'
    go_simp
    with_reducible rfl
  rotate_left
  · simp only [Act.put, List.setIfInBounds_toArray, List.set_cons_zero, List.set_cons_succ, i64_w, i32_w]
    rfl
  refine take_ (i := 12) (N := some 29) (v := ?_) (a' := ?_) #[true, true, true, true, true, true, true, true, false, true, true, true, true, false, false, false, false, false, false] rfl rfl (by kernel_rfl) (fun _ _ _ h => h) (Or.inl ⟨by rfl, ?_⟩) hHeld ?_ ?_
  rotate_left
  · rintro w' ⟨s0, s1, s2⟩
    go_simp
    with_reducible rfl
  rotate_left
  · simp only [Act.put, List.setIfInBounds_toArray, List.set_cons_zero, List.set_cons_succ, i64_w, i32_w]
    rfl
  refine one_ (i := 8) (N := some 25) #[true, true, true, true, true, true, true, true, true, true, true, true, true, false, false, false, false, false, false] rfl rfl (by kernel_rfl) (by decide) (fun K hK => ?_)
  refine goes_ Try.func14 (by kernel_rfl) rfl #[.slice (some ⟨gm, 1, none⟩) 256 256] (by rfl) rfl rfl (by simp only [List.map_toArray, List.map_cons, List.map_nil]; rfl) ?_
  with_reducible refine (run_Run.clone HS.out).mono ?_
  rintro e w3 ⟨mv, rfl, hr3, hb3⟩
  refine ⟨_, rfl, ?_⟩
  obtain ⟨Am, cm, emv⟩ := Kd.R_slice hr3
  subst emv
  have HMV := Aside0.mk hr3
  have HB3 := Aside0.mk hb3
  have HO := Aside0.mk ((hb3.block ob (Array.getElem?_eq_some_iff.1 HO.out).1).trans HO.out)
  have HS3 := Aside0.mk (HS.out.below hb3)
  have y0 := (hb3.cell (World.block_lt_of_cell? _ _ y0)).trans y0
  have y1 := HS3.out.at257
  have y2 := HS3.out.at259
  have o2 : w3.cell? ⟨ob, 2, none⟩ = some (.slice none 0 0) := cell_of_row w3 ob 2 _ _ _ HO.out
  have o3 : w3.cell? ⟨ob, 3, none⟩ = some (.slice none 0 0) := cell_of_row w3 ob 3 _ _ _ HO.out
  have o4 : w3.cell? ⟨ob, 4, none⟩ = some (.int .i64 0) := cell_of_row w3 ob 4 _ _ _ HO.out
  have ofz : ∀ i, w3.frozen? ⟨ob, i, none⟩ = false := fun i => by simp only [World.frozen?]; rw [HO.out]; rfl
  clear hr3 hb3
  refine hK.out _ _ ⟨y0, y1, y2⟩ (fun hHeld => ?_)
  clear hK K
  refine norm_ (a' := ?_) ?_ ?_
  rotate_left
  · show Act.put _ (some 25) _ = _
    simp only [Act.put, List.setIfInBounds_toArray, List.set_cons_zero, List.set_cons_succ, i64_w, i32_w]
    rfl
  refine pure_ (i := 13) (N := some 30) (v := ?_) (a' := ?_) #[true, true, true, true, true, true, true, true, true, true, true, true, true, true, false, false, false, false, false] rfl rfl (by kernel_rfl) (fun _ _ _ h => h) (Or.inl ⟨by rfl, ?_⟩) ?_ ?_
  rotate_left
  · intro w'
    go_simp
    with_reducible rfl
  rotate_left
  · simp only [Act.put, List.setIfInBounds_toArray, List.set_cons_zero, List.set_cons_succ, i64_w, i32_w]
    rfl
  refine last_ (i := 14) (N := none) #[true, true, true, true, true, true, true, true, true, true, true, true, true, true, true, false, false, false, false] rfl rfl (by kernel_rfl) (by decide) (fun K hK => ?_)
  refine skip_ (w1 := ?_) (by rfl) rfl ?_ ?_
  rotate_left
  · go_simp
    rfl
  refine hK.out _ _ ?_
  clear hK K
  refine pure_ (i := 15) (N := some 31) (v := ?_) (a' := ?_) #[true, true, true, true, true, true, true, true, true, true, true, true, true, true, true, true, false, false, false] rfl rfl (by kernel_rfl) (fun _ _ _ h => h) (Or.inl ⟨by rfl, ?_⟩) ?_ ?_
  rotate_left
  · intro w'
    go_simp
    with_reducible rfl
  rotate_left
  · simp only [Act.put, List.setIfInBounds_toArray, List.set_cons_zero, List.set_cons_succ, i64_w, i32_w]
    rfl
  refine last_ (i := 16) (N := none) #[true, true, true, true, true, true, true, true, true, true, true, true, true, true, true, true, true, false, false] rfl rfl (by kernel_rfl) (by decide) (fun K hK => ?_)
  refine skip_ (w1 := ?_) (by rfl) rfl ?_ ?_
  rotate_left
  · go_simp
    rfl
  refine hK.out _ _ ?_
  clear hK K
  refine pure_ (i := 17) (N := some 32) (v := ?_) (a' := ?_) #[true, true, true, true, true, true, true, true, true, true, true, true, true, true, true, true, true, true, false] rfl rfl (by kernel_rfl) (fun _ _ _ h => h) (Or.inl ⟨by rfl, ?_⟩) ?_ ?_
  rotate_left
  · intro w'
    go_simp
    with_reducible rfl
  rotate_left
  · simp only [Act.put, List.setIfInBounds_toArray, List.set_cons_zero, List.set_cons_succ, i64_w, i32_w]
    rfl
  refine last_ (i := 18) (N := none) #[true, true, true, true, true, true, true, true, true, true, true, true, true, true, true, true, true, true, true] rfl rfl (by kernel_rfl) (by decide) (fun K hK => ?_)
  refine skip_ (w1 := ?_) (by rfl) rfl ?_ ?_
  rotate_left
  · go_simp
    rfl
  refine hK.out _ _ ?_
  clear hK K
  refine done_ (by kernel_rfl) ?_
  -- REGION 11 B ENDS
  have hout : run_Run.Ob (((w3.setCell ⟨ob, 2, none⟩ (.slice At m.told.length ct)).setCell ⟨ob, 3, none⟩ (.slice Am m.mem.length cm)).setCell ⟨ob, 4, none⟩ (.int .i64 m.steps)) ob 2 v (.slice At m.told.length ct) (.slice Am m.mem.length cm) m.steps := by
    have h1 := blk_set HO.out 2 (.slice At m.told.length ct)
    have h2 := blk_set h1 3 (.slice Am m.mem.length cm)
    have h3 := blk_set h2 4 (.int .i64 m.steps)
    exact h3
  have hg : w.grownBy (((w3.setCell ⟨ob, 2, none⟩ (.slice At m.told.length ct)).setCell ⟨ob, 3, none⟩ (.slice Am m.mem.length cm)).setCell ⟨ob, 4, none⟩ (.int .i64 m.steps)) (some ob) := HG1.out.trans ((Hw.grown_drew W9 (some ob)).trans (run_Run.grown_below HB3.out |>.trans ((run_Run.gset _ ob 2 _).trans ((run_Run.gset _ ob 3 _).trans (run_Run.gset _ ob 4 _)))))
  have hR : Kd.R (Kd.int .i64) 3 (((w3.setCell ⟨ob, 2, none⟩ (.slice At m.told.length ct)).setCell ⟨ob, 3, none⟩ (.slice Am m.mem.length cm)).setCell ⟨ob, 4, none⟩ (.int .i64 m.steps)) w.heap.size (fun _ => True) (.slice Am m.mem.length cm) m.mem := run_Run.set3 (Kd.R_lower HMV.out hsz) HO.out _ _ _
  go_wp2_with (fail)
  exact ⟨rfl, .panicking [{ v := .iface 47 (.agg #[]), recovered := true }], rfl, .tuple #[], results_none rfl _ _ _, rfl, rfl, _, hout, hR, hg⟩
set_option maxHeartbeats 4000000 in
set_option maxRecDepth 100000 in
theorem run_Run.d_out (ob mb base gm : Nat) (A : Option Addr) (n c : Nat) (fuel : Int) (m : Rn.M) (tv : Value) (k v : Int) (w : World) (hs : Rn.St w base gm A n c fuel m tv) (hm : w.cell? ⟨mb, 0, none⟩ = some (.pointer (some ⟨gm, 0, none⟩))) (ho : run_Run.Ob w ob k v (.slice none 0 0) (.slice none 0 0) 0) (hog : ob ≠ gm) (hob : some ob ≠ tv.ownBlock) :
    CallsD Try.prog 13 #[.pointer (some ⟨ob, 0, none⟩), .pointer (some ⟨mb, 0, none⟩)] (.panicking [{ v := .iface 48 (.agg #[]), recovered := false }]) w fun e u' w' => e = .returned (.tuple #[]) ∧ u' = .panicking [{ v := .iface 48 (.agg #[]), recovered := true }] ∧ ∃ mv, run_Run.Ob w' ob 3 v tv mv m.steps ∧ Kd.R (Kd.int .i64) 3 w' w.heap.size (fun _ => True) mv m.mem ∧ w.grownBy w' (some ob) := by
  refine callsD_of_wpS Try.func13 rfl fun c₀ cs hu => ?_
  simp only [Try.ntmps13, List.size_toArray, List.length_cons, List.length_nil, Nat.reduceAdd, Nat.reduceSub, Array.replicate_succ, Array.replicate_zero, List.push_toArray, List.append_toArray, List.nil_append, List.cons_append]
  apply wpS_seq
  apply wpS_seq
  apply wpS_region
  simp [wpOpsS, go_sem, recoverD, hu, Exit.thenS]
  refine run_Run.lift (fun e a' w' => bodyPostS _ _ c₀ cs _ e a' ({ c₀ with mode := .panicking [{ v := .iface 48 (.agg #[]), recovered := true }] } :: cs) w') (fun _ _ _ h => h) ?_
  generalize hQ : (fun (e : Exit) (a' : Act) (w' : World) => bodyPostS Try.prog Try.f13 c₀ cs _ e a' ({ c₀ with mode := .panicking [{ v := .iface 48 (.agg #[]), recovered := true }] } :: cs) w') = Q0
  obtain ⟨At, ct, etv⟩ := Kd.R_slice hs.tr
  subst etv
  have holt : ob < w.heap.size := (Array.getElem?_eq_some_iff.1 ho).1
  have o0 : w.cell? ⟨ob, 0, none⟩ = some (.int .i64 k) := cell_of_row w ob 0 _ _ _ ho
  have oz : w.frozen? ⟨ob, 0, none⟩ = false := by simp only [World.frozen?]; rw [show w.heap[ob]? = _ from ho]; rfl
  have o0a := Hw.cell_al o0 (.cells #[] 48)
  have oza := Hw.frozen_al (a := ⟨ob, 0, none⟩) holt oz (.cells #[] 48)
  have HS := Aside0.mk ((hs.nset ob 0 hog hob (.int .i64 3)).alloc (.cells #[] 48)).drew
  have HO : Aside0 (((w.setCell ⟨ob, 0, none⟩ (.int .i64 3)).alloc (.cells #[] 48)).drew.heap[ob]? = some (.cells #[.int .i64 3, .int .i64 v, .slice none 0 0, .slice none 0 0, .int .i64 0] 37 (0, 0))) := ⟨Hw.blk_al (blk_set ho 0 (.int .i64 3)) (.cells #[] 48)⟩
  have HG1 : Aside0 (w.grownBy ((w.setCell ⟨ob, 0, none⟩ (.int .i64 3)).alloc (.cells #[] 48)) (some ob)) := ⟨(run_Run.gset _ ob 0 _).trans (run_Run.grown_below ((Below.refl _ _).alloc (Nat.le_refl _) (.cells #[] 48)))⟩
  have hmne : mb ≠ ob := by
    rintro rfl
    rw [cell_of_row w mb 0 _ _ _ ho] at hm
    cases hm
  have y0 : ((w.setCell ⟨ob, 0, none⟩ (.int .i64 3)).alloc (.cells #[] 48)).cell? ⟨mb, 0, none⟩ = some (.pointer (some ⟨gm, 0, none⟩)) := by
    refine Hw.cell_al ?_ (.cells #[] 48)
    rw [World.cell?_setCell_other _ _ _ _ (by intro e; injection e with e; exact hmne e.symm)]
    exact hm
  have y1 : ((w.setCell ⟨ob, 0, none⟩ (.int .i64 3)).alloc (.cells #[] 48)).cell? ⟨gm, 257, none⟩ = some (.slice At m.told.length ct) := HS.out.at257
  have y2 : ((w.setCell ⟨ob, 0, none⟩ (.int .i64 3)).alloc (.cells #[] 48)).cell? ⟨gm, 259, none⟩ = some (.int .i64 m.steps) := HS.out.at259
  clear hs hm ho
  have HQ := Lib.hid hQ
  clear hQ
  have hta : ∀ w : World, (Instr.typeAssert (.iface 48 (.agg #[])) 20 47 true).run Try.prog w = .ok (.tuple #[.agg #[], .bool false]) w := fun w => by kernel_rfl
  have htb : ∀ w : World, (Instr.typeAssert (.iface 48 (.agg #[])) 20 48 true).run Try.prog w = .ok (.tuple #[.agg #[], .bool true]) w := fun w => by kernel_rfl
  go_wp2_with (fail)
  clear o0 oz o0a oza
  have hsz : w.heap.size ≤ ((w.setCell ⟨ob, 0, none⟩ (.int .i64 3)).alloc (.cells #[] 48)).heap.size := HG1.out.size
  generalize ((w.setCell ⟨ob, 0, none⟩ (.int .i64 3)).alloc (.cells #[] 48)) = W9 at HS HO HG1 y0 y1 y2 hsz ⊢
  have hq := HQ.out
  clear HQ
  subst hq
  -- REGION 11 C BEGINS
  refine start_ (n := 19) (S := fun w' => w'.cell? ⟨mb, 0, none⟩ = some (.pointer (some ⟨gm, 0, none⟩)) ∧ w'.cell? ⟨gm, 257, none⟩ = some (.slice At m.told.length ct) ∧ w'.cell? ⟨gm, 259, none⟩ = some (.int .i64 m.steps)) (ds := [14, 16, 18]) #[false, false, false, false, false, false, false, false, false, false, false, false, false, false, false, false, false, false, false] (by kernel_rfl) rfl rfl ⟨y0, y1, y2⟩ (fun hHeld => ?_)
  refine take_ (i := 0) (N := some 17) (v := ?_) (a' := ?_) #[true, false, false, false, false, false, false, false, false, false, false, false, false, false, false, false, false, false, false] rfl rfl (by kernel_rfl) (fun _ _ _ h => h) (Or.inl ⟨by rfl, ?_⟩) hHeld ?_ ?_
  rotate_left
  · rintro w' ⟨s0, s1, s2⟩
    go_simp
    with_reducible rfl
  rotate_left
  · simp only [Act.put, List.setIfInBounds_toArray, List.set_cons_zero, List.set_cons_succ, i64_w, i32_w]
    rfl
  refine pure_ (i := 1) (N := some 18) (v := ?_) (a' := ?_) #[true, true, false, false, false, false, false, false, false, false, false, false, false, false, false, false, false, false, false] rfl rfl (by kernel_rfl) (fun _ _ _ h => h) (Or.inl ⟨by rfl, ?_⟩) ?_ ?_
  rotate_left
  · intro w'
    go_simp
    with_reducible rfl
  rotate_left
  · simp only [Act.put, List.setIfInBounds_toArray, List.set_cons_zero, List.set_cons_succ, i64_w, i32_w]
    rfl
  refine pure_ (i := 2) (N := some 19) (v := ?_) (a' := ?_) #[true, true, true, false, false, false, false, false, false, false, false, false, false, false, false, false, false, false, false] rfl rfl (by kernel_rfl) (fun _ _ _ h => h) (Or.inl ⟨by rfl, ?_⟩) ?_ ?_
  rotate_left
  · intro w'
    go_simp
    with_reducible rfl
  rotate_left
  · simp only [Act.put, List.setIfInBounds_toArray, List.set_cons_zero, List.set_cons_succ, i64_w, i32_w]
    rfl
  refine take_ (i := 3) (N := some 20) (v := ?_) (a' := ?_) #[true, true, true, true, false, false, false, false, false, false, false, false, false, false, false, false, false, false, false] rfl rfl (by kernel_rfl) (fun _ _ _ h => h) (Or.inl ⟨by rfl, ?_⟩) hHeld ?_ ?_
  rotate_left
  · rintro w' ⟨s0, s1, s2⟩
    go_simp
    with_reducible rfl
  rotate_left
  · simp only [Act.put, List.setIfInBounds_toArray, List.set_cons_zero, List.set_cons_succ, i64_w, i32_w]
    rfl
  refine take_ (i := 4) (N := some 21) (v := ?_) (a' := ?_) #[true, true, true, true, true, false, false, false, false, false, false, false, false, false, false, false, false, false, false] rfl rfl (by kernel_rfl) (fun _ _ _ h => h) (Or.inl ⟨by rfl, ?_⟩) hHeld ?_ ?_
  rotate_left
  · rintro w' ⟨s0, s1, s2⟩
    go_simp
    with_reducible rfl
  rotate_left
  · simp only [Act.put, List.setIfInBounds_toArray, List.set_cons_zero, List.set_cons_succ, i64_w, i32_w]
    rfl
  refine pure_ (i := 5) (N := some 22) (v := ?_) (a' := ?_) #[true, true, true, true, true, true, false, false, false, false, false, false, false, false, false, false, false, false, false] rfl rfl (by kernel_rfl) (fun _ _ _ h => h) (Or.inl ⟨by rfl, ?_⟩) ?_ ?_
  rotate_left
  · intro w'
    go_simp
    with_reducible rfl
  rotate_left
  · simp only [Act.put, List.setIfInBounds_toArray, List.set_cons_zero, List.set_cons_succ, i64_w, i32_w]
    rfl
  refine pure_ (i := 6) (N := some 23) (v := ?_) (a' := ?_) #[true, true, true, true, true, true, true, false, false, false, false, false, false, false, false, false, false, false, false] rfl rfl (by kernel_rfl) (fun _ _ _ h => h) (Or.inl ⟨by rfl, ?_⟩) ?_ ?_
  rotate_left
  · intro w'
    go_simp
    with_reducible rfl
  rotate_left
  · simp only [Act.put, List.setIfInBounds_toArray, List.set_cons_zero, List.set_cons_succ, i64_w, i32_w]
    rfl
  refine pure_ (i := 7) (N := some 24) (v := ?_) (a' := ?_) #[true, true, true, true, true, true, true, true, false, false, false, false, false, false, false, false, false, false, false] rfl rfl (by kernel_rfl) (fun _ _ _ h => h) (Or.inl ⟨by rfl, ?_⟩) ?_ ?_
  rotate_left
  · intro w'
    go_simp
    with_reducible rfl
  rotate_left
  · simp only [Act.put, List.setIfInBounds_toArray, List.set_cons_zero, List.set_cons_succ, i64_w, i32_w]
    rfl
  refine take_ (i := 9) (N := some 26) (v := ?_) (a' := ?_) #[true, true, true, true, true, true, true, true, false, true, false, false, false, false, false, false, false, false, false] rfl rfl (by kernel_rfl) (fun _ _ _ h => h) (Or.inl ⟨by rfl, ?_⟩) hHeld ?_ ?_
  rotate_left
  · rintro w' ⟨s0, s1, s2⟩
    go_simp
    with_reducible rfl
  rotate_left
  · simp only [Act.put, List.setIfInBounds_toArray, List.set_cons_zero, List.set_cons_succ, i64_w, i32_w]
    rfl
  refine pure_ (i := 10) (N := some 27) (v := ?_) (a' := ?_) #[true, true, true, true, true, true, true, true, false, true, true, false, false, false, false, false, false, false, false] rfl rfl (by kernel_rfl) (fun _ _ _ h => h) (Or.inl ⟨by rfl, ?_⟩) ?_ ?_
  rotate_left
  · intro w'
    go_simp
    with_reducible rfl
  rotate_left
  · simp only [Act.put, List.setIfInBounds_toArray, List.set_cons_zero, List.set_cons_succ, i64_w, i32_w]
    rfl
  refine pure_ (i := 11) (N := some 28) (v := ?_) (a' := ?_) #[true, true, true, true, true, true, true, true, false, true, true, true, false, false, false, false, false, false, false] rfl rfl (by kernel_rfl) (fun _ _ _ h => h) (Or.inl ⟨by rfl, ?_⟩) ?_ ?_
  rotate_left
  · intro w'
    go_simp
    with_reducible rfl
  rotate_left
  · simp only [Act.put, List.setIfInBounds_toArray, List.set_cons_zero, List.set_cons_succ, i64_w, i32_w]
    rfl
  refine take_ (i := 12) (N := some 29) (v := ?_) (a' := ?_) #[true, true, true, true, true, true, true, true, false, true, true, true, true, false, false, false, false, false, false] rfl rfl (by kernel_rfl) (fun _ _ _ h => h) (Or.inl ⟨by rfl, ?_⟩) hHeld ?_ ?_
  rotate_left
  · rintro w' ⟨s0, s1, s2⟩
    go_simp
    with_reducible rfl
  rotate_left
  · simp only [Act.put, List.setIfInBounds_toArray, List.set_cons_zero, List.set_cons_succ, i64_w, i32_w]
    rfl
  refine one_ (i := 8) (N := some 25) #[true, true, true, true, true, true, true, true, true, true, true, true, true, false, false, false, false, false, false] rfl rfl (by kernel_rfl) (by decide) (fun K hK => ?_)
  refine goes_ Try.func14 (by kernel_rfl) rfl #[.slice (some ⟨gm, 1, none⟩) 256 256] (by rfl) rfl rfl (by simp only [List.map_toArray, List.map_cons, List.map_nil]; rfl) ?_
  with_reducible refine (run_Run.clone HS.out).mono ?_
  rintro e w3 ⟨mv, rfl, hr3, hb3⟩
  refine ⟨_, rfl, ?_⟩
  obtain ⟨Am, cm, emv⟩ := Kd.R_slice hr3
  subst emv
  have HMV := Aside0.mk hr3
  have HB3 := Aside0.mk hb3
  have HO := Aside0.mk ((hb3.block ob (Array.getElem?_eq_some_iff.1 HO.out).1).trans HO.out)
  have HS3 := Aside0.mk (HS.out.below hb3)
  have y0 := (hb3.cell (World.block_lt_of_cell? _ _ y0)).trans y0
  have y1 := HS3.out.at257
  have y2 := HS3.out.at259
  have o2 : w3.cell? ⟨ob, 2, none⟩ = some (.slice none 0 0) := cell_of_row w3 ob 2 _ _ _ HO.out
  have o3 : w3.cell? ⟨ob, 3, none⟩ = some (.slice none 0 0) := cell_of_row w3 ob 3 _ _ _ HO.out
  have o4 : w3.cell? ⟨ob, 4, none⟩ = some (.int .i64 0) := cell_of_row w3 ob 4 _ _ _ HO.out
  have ofz : ∀ i, w3.frozen? ⟨ob, i, none⟩ = false := fun i => by simp only [World.frozen?]; rw [HO.out]; rfl
  clear hr3 hb3
  refine hK.out _ _ ⟨y0, y1, y2⟩ (fun hHeld => ?_)
  clear hK K
  refine norm_ (a' := ?_) ?_ ?_
  rotate_left
  · show Act.put _ (some 25) _ = _
    simp only [Act.put, List.setIfInBounds_toArray, List.set_cons_zero, List.set_cons_succ, i64_w, i32_w]
    rfl
  refine pure_ (i := 13) (N := some 30) (v := ?_) (a' := ?_) #[true, true, true, true, true, true, true, true, true, true, true, true, true, true, false, false, false, false, false] rfl rfl (by kernel_rfl) (fun _ _ _ h => h) (Or.inl ⟨by rfl, ?_⟩) ?_ ?_
  rotate_left
  · intro w'
    go_simp
    with_reducible rfl
  rotate_left
  · simp only [Act.put, List.setIfInBounds_toArray, List.set_cons_zero, List.set_cons_succ, i64_w, i32_w]
    rfl
  refine last_ (i := 14) (N := none) #[true, true, true, true, true, true, true, true, true, true, true, true, true, true, true, false, false, false, false] rfl rfl (by kernel_rfl) (by decide) (fun K hK => ?_)
  refine skip_ (w1 := ?_) (by rfl) rfl ?_ ?_
  rotate_left
  · go_simp
    rfl
  refine hK.out _ _ ?_
  clear hK K
  refine pure_ (i := 15) (N := some 31) (v := ?_) (a' := ?_) #[true, true, true, true, true, true, true, true, true, true, true, true, true, true, true, true, false, false, false] rfl rfl (by kernel_rfl) (fun _ _ _ h => h) (Or.inl ⟨by rfl, ?_⟩) ?_ ?_
  rotate_left
  · intro w'
    go_simp
    with_reducible rfl
  rotate_left
  · simp only [Act.put, List.setIfInBounds_toArray, List.set_cons_zero, List.set_cons_succ, i64_w, i32_w]
    rfl
  refine last_ (i := 16) (N := none) #[true, true, true, true, true, true, true, true, true, true, true, true, true, true, true, true, true, false, false] rfl rfl (by kernel_rfl) (by decide) (fun K hK => ?_)
  refine skip_ (w1 := ?_) (by rfl) rfl ?_ ?_
  rotate_left
  · go_simp
    rfl
  refine hK.out _ _ ?_
  clear hK K
  refine pure_ (i := 17) (N := some 32) (v := ?_) (a' := ?_) #[true, true, true, true, true, true, true, true, true, true, true, true, true, true, true, true, true, true, false] rfl rfl (by kernel_rfl) (fun _ _ _ h => h) (Or.inl ⟨by rfl, ?_⟩) ?_ ?_
  rotate_left
  · intro w'
    go_simp
    with_reducible rfl
  rotate_left
  · simp only [Act.put, List.setIfInBounds_toArray, List.set_cons_zero, List.set_cons_succ, i64_w, i32_w]
    rfl
  refine last_ (i := 18) (N := none) #[true, true, true, true, true, true, true, true, true, true, true, true, true, true, true, true, true, true, true] rfl rfl (by kernel_rfl) (by decide) (fun K hK => ?_)
  refine skip_ (w1 := ?_) (by rfl) rfl ?_ ?_
  rotate_left
  · go_simp
    rfl
  refine hK.out _ _ ?_
  clear hK K
  refine done_ (by kernel_rfl) ?_
  -- REGION 11 C ENDS
  have hout : run_Run.Ob (((w3.setCell ⟨ob, 2, none⟩ (.slice At m.told.length ct)).setCell ⟨ob, 3, none⟩ (.slice Am m.mem.length cm)).setCell ⟨ob, 4, none⟩ (.int .i64 m.steps)) ob 3 v (.slice At m.told.length ct) (.slice Am m.mem.length cm) m.steps := by
    have h1 := blk_set HO.out 2 (.slice At m.told.length ct)
    have h2 := blk_set h1 3 (.slice Am m.mem.length cm)
    have h3 := blk_set h2 4 (.int .i64 m.steps)
    exact h3
  have hg : w.grownBy (((w3.setCell ⟨ob, 2, none⟩ (.slice At m.told.length ct)).setCell ⟨ob, 3, none⟩ (.slice Am m.mem.length cm)).setCell ⟨ob, 4, none⟩ (.int .i64 m.steps)) (some ob) := HG1.out.trans ((Hw.grown_drew W9 (some ob)).trans (run_Run.grown_below HB3.out |>.trans ((run_Run.gset _ ob 2 _).trans ((run_Run.gset _ ob 3 _).trans (run_Run.gset _ ob 4 _)))))
  have hR : Kd.R (Kd.int .i64) 3 (((w3.setCell ⟨ob, 2, none⟩ (.slice At m.told.length ct)).setCell ⟨ob, 3, none⟩ (.slice Am m.mem.length cm)).setCell ⟨ob, 4, none⟩ (.int .i64 m.steps)) w.heap.size (fun _ => True) (.slice Am m.mem.length cm) m.mem := run_Run.set3 (Kd.R_lower HMV.out hsz) HO.out _ _ _
  go_wp2_with (fail)
  exact ⟨rfl, .panicking [{ v := .iface 48 (.agg #[]), recovered := true }], rfl, .tuple #[], results_none rfl _ _ _, rfl, rfl, _, hout, hR, hg⟩
/-- What a run comes to: its kind and its value. -/
def run_Run.kind : Rn.Res → Int × Int
  | .val v => (1, v)
  | .trap => (2, 0)
  | .out => (3, 0)
def run_Run.word (mem : List Int) : List Int := mem.map (· % 65536)
theorem run_Run.word_calls (a : Int) (w : World) : Calls Try.prog 9 #[.int .i64 a] w fun e w' => e = .returned (.int .i64 (a % 65536)) ∧ ∃ m, w' = w.drewN m := by
  refine (run_Word.calls a (a % 65536) w (run_machine_call.word_f a)).mono ?_
  rintro e w' ⟨h1, h2⟩
  exact ⟨h1, h2.out⟩
def run_Run.NQ (Q : Exit → Act → World → Prop) : Exit → Act → World → Prop
  | .normal, a, w => Q .normal a w
  | _, _, _ => False
theorem run_Run.wp_normal {P : Program} {c : Code} {Q : Exit → Act → World → Prop} {a : Act} {w : World} (h : c.wp P (run_Run.NQ Q) a w) : c.wp P Q a w := wp_mono h (fun e a w q => by
  cases e with
  | normal => exact q
  | _ => exact q.elim)
def run_Run.vals (args : List Int) (k : Nat) : List Int := (args.take k).map (· % 65536) ++ List.replicate (args.length - k) 0
theorem run_Run.vals_len (args : List Int) (k : Nat) : (run_Run.vals args k).length = args.length := by
  unfold run_Run.vals
  rw [List.length_append, List.length_map, List.length_take, List.length_replicate]
  omega
theorem run_Run.vals_set (args : List Int) (k : Nat) (hl : k < args.length) : (run_Run.vals args k).set k (args.getD k 0 % 65536) = run_Run.vals args (k + 1) := by
  unfold run_Run.vals
  have hlen : ((args.take k).map (· % 65536)).length = k := by rw [List.length_map, List.length_take]; omega
  have e : args.length - k = (args.length - (k + 1)) + 1 := by omega
  rw [e, List.replicate_succ, List.set_append_right _ _ (by omega), hlen, Nat.sub_self, List.set_cons_zero, List.take_succ_eq_append_getElem hl, List.map_append, List.append_assoc, List.getD_eq_getElem?_getD, List.getElem?_eq_getElem hl]
  rfl
theorem run_Run.filled_len (mem : List Int) (k : Nat) (hk : k ≤ 256) : (run_Run.filled mem k).length = 256 ∨ mem.length < k := by
  by_cases h : mem.length < k
  · exact .inr h
  · left
    unfold run_Run.filled
    rw [List.length_append, List.length_map, List.length_take, List.length_replicate]
    omega
theorem run_Run.filled_set (mem : List Int) (k : Nat) (hk : k < 256) (hl : k < mem.length) : (run_Run.filled mem k).set k (mem.getD k 0 % 65536) = run_Run.filled mem (k + 1) := by
  unfold run_Run.filled
  have hlen : ((mem.take k).map (· % 65536)).length = k := by rw [List.length_map, List.length_take]; omega
  have e : 256 - k = (256 - (k + 1)) + 1 := by omega
  rw [e, List.replicate_succ, List.set_append_right _ _ (by omega), hlen, Nat.sub_self, List.set_cons_zero, List.take_succ_eq_append_getElem hl, List.map_append, List.append_assoc, List.getD_eq_getElem?_getD, List.getElem?_eq_getElem hl]
  rfl
set_option maxHeartbeats 16000000 in
set_option maxRecDepth 100000 in
theorem run_Run.calls (mod : List Rn.Fn) (name : ByteArray) (args mem : List Int) (fuel : Int) (g : Nat) (q : Rn.Res) (m' : Rn.M) (A : Option Addr) (c : Nat) (Aa : Option Addr) (ca : Nat) (Am : Option Addr) (cm : Nat) (w : World)
    (hmod : Rn.kF.C w A mod.length mod) (hmc : mod.length ≤ c) (hargs : (Kd.int .i64).C w Aa args.length args) (hac : args.length ≤ ca) (hal : args.length ≤ 100000) (hmem : (Kd.int .i64).C w Am mem.length mem) (hmmc : mem.length ≤ cm) (hf : 0 < fuel ∧ fuel ≤ 1048576)
    (hgo : Rn.call mod fuel g name (run_Run.word args) 0 ⟨run_Run.filled mem (min mem.length 256), [], 0⟩ = some (q, m')) :
    Calls Try.prog 11 #[.slice A mod.length c, .string name, .slice Aa args.length ca, .slice Am mem.length cm, .int .i64 fuel] w fun e w' => ∃ tv mv, e = .returned (.agg #[.int .i64 (run_Run.kind q).1, .int .i64 (run_Run.kind q).2, tv, mv, .int .i64 m'.steps]) ∧ Kd.R (Kd.int .i64) 3 w' w.heap.size (fun _ => True) tv m'.told ∧ Kd.R (Kd.int .i64) 3 w' w.heap.size (fun _ => True) mv m'.mem ∧ Below w.heap.size w w' := by
  have HMOD := Aside0.mk hmod
  have HARGS := Aside0.mk hargs
  have HMEM := Aside0.mk hmem
  have HGO := Aside0.mk hgo
  clear hmod hargs hmem hgo
  have hz : ∀ w : World, (zeroValue 45).run Try.prog w = .ok (.agg run_Run.Z) w := fun w => by kernel_rfl
  have hzs := run_Run.Z_size
  have hz2 : ∀ v, (run_Run.Z.setIfInBounds 0 v).size = 260 := fun v => by rw [Array.size_setIfInBounds]; exact hzs
  have hz3 : ∀ v u, ((run_Run.Z.setIfInBounds 0 v).setIfInBounds 258 u).size = 260 := fun v u => by rw [Array.size_setIfInBounds]; exact hz2 v
  have hf1 : fuel ≤ 1048576 := hf.2
  have hf2 : 0 < fuel := hf.1
  by_cases hM : (mem.length : Int) ≤ 256
  · go_enter_defers Try.func11, Try.ntmps11
    go_wp2_with (fail)
    have HS : Aside0 (Rn.St (((w.alloc (.cells #[.int .i64 0, .int .i64 0, .slice none 0 0, .slice none 0 0, .int .i64 0] 37)).alloc (.cells ((run_Run.Z.setIfInBounds 0 (.slice A mod.length c)).setIfInBounds 258 (.int .i64 fuel)) 45)).alloc (.cells #[.pointer (some ⟨w.heap.size + 1, 0, none⟩)] 42)) w.heap.size (w.heap.size + 1) A mod.length c fuel ⟨run_Run.filled mem 0, [], 0⟩ (.slice none 0 0)) := ⟨by
      have e := Hw.blk_al (Hw.blk_nw1 w (.cells #[.int .i64 0, .int .i64 0, .slice none 0 0, .slice none 0 0, .int .i64 0] 37) (.cells ((run_Run.Z.setIfInBounds 0 (.slice A mod.length c)).setIfInBounds 258 (.int .i64 fuel)) 45)) (.cells #[.pointer (some ⟨w.heap.size + 1, 0, none⟩)] 42)
      rw [run_Run.Z_set] at e ⊢
      exact ⟨e, (run_Run.filled_len mem 0 (by decide)).resolve_right (by omega), Nat.le_succ _, Kd.R_nil _ _ _ _ _, by simp; omega, ⟨Int.le_refl _, by show (0 : Int) ≤ 1048576; decide⟩, ⟨Int.le_of_lt hf2, hf1⟩⟩⟩
    have HO : Aside0 (run_Run.Ob (((w.alloc (.cells #[.int .i64 0, .int .i64 0, .slice none 0 0, .slice none 0 0, .int .i64 0] 37)).alloc (.cells ((run_Run.Z.setIfInBounds 0 (.slice A mod.length c)).setIfInBounds 258 (.int .i64 fuel)) 45)).alloc (.cells #[.pointer (some ⟨w.heap.size + 1, 0, none⟩)] 42)) w.heap.size 0 0 (.slice none 0 0) (.slice none 0 0) 0) := ⟨Hw.blk_al (Hw.blk_al (Hw.blk_nw w (.cells #[.int .i64 0, .int .i64 0, .slice none 0 0, .slice none 0 0, .int .i64 0] 37)) (.cells ((run_Run.Z.setIfInBounds 0 (.slice A mod.length c)).setIfInBounds 258 (.int .i64 fuel)) 45)) (.cells #[.pointer (some ⟨w.heap.size + 1, 0, none⟩)] 42)⟩
    have HM : Aside0 ((((w.alloc (.cells #[.int .i64 0, .int .i64 0, .slice none 0 0, .slice none 0 0, .int .i64 0] 37)).alloc (.cells ((run_Run.Z.setIfInBounds 0 (.slice A mod.length c)).setIfInBounds 258 (.int .i64 fuel)) 45)).alloc (.cells #[.pointer (some ⟨w.heap.size + 1, 0, none⟩)] 42)).heap[w.heap.size + 1 + 1]? = some (.cells #[.pointer (some ⟨w.heap.size + 1, 0, none⟩)] 42)) := ⟨Hw.blk_nw2 w (.cells #[.int .i64 0, .int .i64 0, .slice none 0 0, .slice none 0 0, .int .i64 0] 37) (.cells ((run_Run.Z.setIfInBounds 0 (.slice A mod.length c)).setIfInBounds 258 (.int .i64 fuel)) 45) (.cells #[.pointer (some ⟨w.heap.size + 1, 0, none⟩)] 42)⟩
    have HB := Aside0.mk ((((Below.refl w.heap.size w).alloc (Nat.le_refl _) (.cells #[.int .i64 0, .int .i64 0, .slice none 0 0, .slice none 0 0, .int .i64 0] 37)).alloc (by simp) (.cells ((run_Run.Z.setIfInBounds 0 (.slice A mod.length c)).setIfInBounds 258 (.int .i64 fuel)) 45)).alloc (by simp; omega) (.cells #[.pointer (some ⟨w.heap.size + 1, 0, none⟩)] 42))
    generalize ((w.alloc (.cells #[.int .i64 0, .int .i64 0, .slice none 0 0, .slice none 0 0, .int .i64 0] 37)).alloc (.cells ((run_Run.Z.setIfInBounds 0 (.slice A mod.length c)).setIfInBounds 258 (.int .i64 fuel)) 45)).alloc (.cells #[.pointer (some ⟨w.heap.size + 1, 0, none⟩)] 42) = W1 at HS HO HM HB ⊢
    clear hz hzs hz2 hz3
    go_loopg [30] mem.length (fun gg v30 wq => ∃ k : Nat, v30 = .int .i64 (k : Int) ∧ k ≤ mem.length ∧ mem.length - k ≤ gg ∧ Aside0 (Rn.St wq w.heap.size (w.heap.size + 1) A mod.length c fuel ⟨run_Run.filled mem k, [], 0⟩ (.slice none 0 0)) ∧ Aside0 (run_Run.Ob wq w.heap.size 0 0 (.slice none 0 0) (.slice none 0 0) 0) ∧ Aside0 (wq.heap[w.heap.size + 1 + 1]? = some (.cells #[.pointer (some ⟨w.heap.size + 1, 0, none⟩)] 42)) ∧ Aside0 (Below w.heap.size w wq))
    case atStart => exact ⟨0, rfl, Nat.zero_le _, by omega, HS, HO, HM, HB⟩
    case round =>
      clear HS HO HM HB
      obtain ⟨k, rfl, hk, hgg, HS, HO, HM, HB⟩ := hrel
      by_cases hkl : k < mem.length
      · as_aux_lemma =>
        obtain ⟨gk, rfl⟩ : ∃ q, gk = q + 1 := by
          cases gk with
          | zero => omega
          | succ q => exact ⟨q, rfl⟩
        have hk256 : k < 256 := by omega
        obtain ⟨adm, rfl, a1⟩ := Kd.at_int (Kd.C_below HMEM.out HB.out) (k : Int) (by omega) (by omega)
        rw [Int.toNat_natCast] at a1
        have HFILL := Aside0.mk (run_Run.filled_set mem k hk256 (by omega))
        have e1 : rd mem (k : Int) = mem.getD k 0 := by unfold rd; rw [Int.toNat_natCast]
        rw [e1] at a1
        generalize mem.getD k 0 = u at a1 HFILL
        clear e1
        have y0 : wr.cell? ⟨w.heap.size + 1 + 1, 0, none⟩ = some (.pointer (some ⟨w.heap.size + 1, 0, none⟩)) := cell_of_row wr _ 0 _ _ _ HM.out
        have cmm := HS.out.atm k hk256
        have cmf := HS.out.fz (1 + k)
        have zk : (k : Int) < (mem.length : Nat) := by omega
        have zk2 : (k : Int) < 256 := by omega
        go_upto_region 5 with fail
        refine run_Run.wp_normal ?_
        -- REGION 5 A BEGINS
        refine start_ (n := 8) (S := fun w' => w'.cell? ⟨w.heap.size + 1 + 1, 0, none⟩ = some (.pointer (some ⟨w.heap.size + 1, 0, none⟩))) (ds := [7]) #[false, false, false, false, false, false, false, false] (by kernel_rfl) rfl rfl (y0) (fun hHeld => ?_)
        refine pure_ (i := 1) (N := some 36) (v := ?_) (a' := ?_) #[false, true, false, false, false, false, false, false] rfl rfl (by kernel_rfl) (fun _ _ _ h => h) (Or.inl ⟨by rfl, ?_⟩) ?_ ?_
        rotate_left
        · intro w'
          go_simp
          with_reducible rfl
        rotate_left
        · simp only [Act.put, List.setIfInBounds_toArray, List.set_cons_zero, List.set_cons_succ, i64_w, i32_w]
          rfl
        refine pure_ (i := 2) (N := some 37) (v := ?_) (a' := ?_) #[false, true, true, false, false, false, false, false] rfl rfl (by kernel_rfl) (fun _ _ _ h => h) (Or.inl ⟨by rfl, ?_⟩) ?_ ?_
        rotate_left
        · intro w'
          go_simp
          with_reducible rfl
        rotate_left
        · simp only [Act.put, List.setIfInBounds_toArray, List.set_cons_zero, List.set_cons_succ, i64_w, i32_w]
          rfl
        refine take_ (i := 0) (N := some 35) (v := ?_) (a' := ?_) #[true, true, true, false, false, false, false, false] rfl rfl (by kernel_rfl) (fun _ _ _ h => h) (Or.inl ⟨by rfl, ?_⟩) hHeld ?_ ?_
        rotate_left
        · intro w' s0
          go_simp
          with_reducible rfl
        rotate_left
        · simp only [Act.put, List.setIfInBounds_toArray, List.set_cons_zero, List.set_cons_succ, i64_w, i32_w]
          rfl
        refine pure_ (i := 4) (N := some 39) (v := ?_) (a' := ?_) #[true, true, true, false, true, false, false, false] rfl rfl (by kernel_rfl) (fun _ _ _ h => h) (Or.inl ⟨by rfl, ?_⟩) ?_ ?_
        rotate_left
        · intro w'
          go_simp
          with_reducible rfl
        rotate_left
        · simp only [Act.put, List.setIfInBounds_toArray, List.set_cons_zero, List.set_cons_succ, i64_w, i32_w]
          rfl
        refine pure_ (i := 5) (N := some 40) (v := ?_) (a' := ?_) #[true, true, true, false, true, true, false, false] rfl rfl (by kernel_rfl) (fun _ _ _ h => h) (Or.inl ⟨by rfl, ?_⟩) ?_ ?_
        rotate_left
        · intro w'
          go_simp
          with_reducible rfl
        rotate_left
        · simp only [Act.put, List.setIfInBounds_toArray, List.set_cons_zero, List.set_cons_succ, i64_w, i32_w]
          rfl
        refine one_ (i := 3) (N := some 38) #[true, true, true, true, true, true, false, false] rfl rfl (by kernel_rfl) (by decide) (fun K hK => ?_)
        refine goes_ Try.func9 (by kernel_rfl) rfl #[.int .i64 u] (by rfl) rfl rfl (by simp only [List.map_toArray, List.map_cons, List.map_nil]; rfl) ?_
        with_reducible refine (run_Run.word_calls u _).mono ?_
        rintro e w3 ⟨rfl, nq, rfl⟩
        refine ⟨_, rfl, ?_⟩
        refine hK.out _ _ (y0) (fun hHeld => ?_)
        clear hK K
        refine norm_ (a' := ?_) ?_ ?_
        rotate_left
        · show Act.put _ (some 38) _ = _
          simp only [Act.put, List.setIfInBounds_toArray, List.set_cons_zero, List.set_cons_succ, i64_w, i32_w]
          rfl
        refine pure_ (i := 6) (N := some 41) (v := ?_) (a' := ?_) #[true, true, true, true, true, true, true, false] rfl rfl (by kernel_rfl) (fun _ _ _ h => h) (Or.inl ⟨by rfl, ?_⟩) ?_ ?_
        rotate_left
        · intro w'
          go_simp
          with_reducible rfl
        rotate_left
        · simp only [Act.put, List.setIfInBounds_toArray, List.set_cons_zero, List.set_cons_succ, i64_w, i32_w]
          rfl
        refine last_ (i := 7) (N := none) #[true, true, true, true, true, true, true, true] rfl rfl (by kernel_rfl) (by decide) (fun K hK => ?_)
        refine skip_ (w1 := ?_) (by rfl) rfl ?_ ?_
        rotate_left
        · go_simp
          rfl
        refine hK.out _ _ ?_
        clear hK K
        refine done_ (by kernel_rfl) ?_
        -- REGION 5 A ENDS
        dsimp only [run_Run.NQ]
        go_wp2_with (fail)
        go_roundg gk
        case measure => omega
        case rel =>
          have hs := (HS.out.drewN (1 + nq)).store k hk256 (u % 65536)
          simp only [HFILL.out] at hs
          exact ⟨k + 1, by rw [Int.natCast_add]; rfl, by omega, by omega, ⟨hs⟩, ⟨(Below.heap_setCell _ _ _ w.heap.size (by show w.heap.size ≠ w.heap.size + 1; omega)).trans HO.out⟩, ⟨(Below.heap_setCell _ _ _ (w.heap.size + 1 + 1) (by show w.heap.size + 1 + 1 ≠ w.heap.size + 1; omega)).trans HM.out⟩, ⟨(pw_below_drewN HB.out (1 + nq)).setCell (p := ⟨w.heap.size + 1, 1 + k, none⟩) (by show w.heap.size ≤ w.heap.size + 1; omega) _⟩⟩
      · obtain rfl : k = mem.length := by omega
        have hmin : min mem.length 256 = mem.length := by omega
        rw [hmin] at HGO
        generalize (⟨run_Run.filled mem mem.length, [], 0⟩ : Rn.M) = m1 at HGO HS
        have hmf : ∀ (fn : Fn) (first cap : Array Value) (w : World), (Instr.makeFunc fn first cap).run Try.prog w = .ok (.func fn first cap) w := fun _ _ _ _ => rfl
        have hmk := (Rn.made wr args.length).resolve_right (by omega)
        have hvb : w.heap.size + 1 + 1 < wr.heap.size := (Array.getElem?_eq_some_iff.1 HM.out).1
        clear HMEM hgg hk hkl
        go_wp2_with (fail)
        have HV : Aside0 (Rn.Row (wr.alloc (.cells (Array.replicate args.length (.int .i64 0)) 3)) wr.heap.size (run_Run.vals args 0)) := ⟨by
          unfold Rn.Row run_Run.vals
          rw [Hw.blk_nw wr (.cells (Array.replicate args.length (.int .i64 0)) 3)]
          simp⟩
        have HS := Aside0.mk (HS.out.alloc (.cells (Array.replicate args.length (.int .i64 0)) 3))
        have HO : Aside0 (run_Run.Ob (wr.alloc (.cells (Array.replicate args.length (.int .i64 0)) 3)) w.heap.size 0 0 (.slice none 0 0) (.slice none 0 0) 0) := ⟨Hw.blk_al HO.out _⟩
        have HM := Aside0.mk (Hw.blk_al HM.out (.cells (Array.replicate args.length (.int .i64 0)) 3))
        have HB := Aside0.mk (HB.out.alloc HB.out.size (.cells (Array.replicate args.length (.int .i64 0)) 3))
        clear hmk
        generalize wr.heap.size = vb at hvb HV ⊢
        generalize wr.alloc (.cells (Array.replicate args.length (.int .i64 0)) 3) = W2 at HV HS HO HM HB ⊢
        go_loopg [49] args.length (fun gg v49 wq => ∃ k : Nat, v49 = .int .i64 (k : Int) ∧ k ≤ args.length ∧ args.length - k ≤ gg ∧ Aside0 (Rn.St wq w.heap.size (w.heap.size + 1) A mod.length c fuel m1 (.slice none 0 0)) ∧ Aside0 (run_Run.Ob wq w.heap.size 0 0 (.slice none 0 0) (.slice none 0 0) 0) ∧ Aside0 (wq.heap[w.heap.size + 1 + 1]? = some (.cells #[.pointer (some ⟨w.heap.size + 1, 0, none⟩)] 42)) ∧ Aside0 (Below w.heap.size w wq) ∧ Aside0 (Rn.Row wq vb (run_Run.vals args k)))
        case atStart => exact ⟨0, rfl, Nat.zero_le _, by omega, HS, HO, HM, HB, HV⟩
        case round =>
          clear HS HO HM HB HV
          obtain ⟨k, rfl, hk, hgg, HS, HO, HM, HB, HV⟩ := hrel
          by_cases hkl : k < args.length
          · as_aux_lemma =>
            obtain ⟨gk, rfl⟩ : ∃ q, gk = q + 1 := by
              cases gk with
              | zero => omega
              | succ q => exact ⟨q, rfl⟩
            obtain ⟨ada, rfl, a1⟩ := Kd.at_int (Kd.C_below HARGS.out HB.out) (k : Int) (by omega) (by omega)
            rw [Int.toNat_natCast] at a1
            have HFILL := Aside0.mk (run_Run.vals_set args k hkl)
            have e1 : rd args (k : Int) = args.getD k 0 := by unfold rd; rw [Int.toNat_natCast]
            rw [e1] at a1
            generalize args.getD k 0 = u at a1 HFILL
            clear e1
            obtain ⟨c2, f2⟩ := HV.out.cell k (by rw [run_Run.vals_len]; exact hkl)
            have zk : (k : Int) < (args.length : Int) := by omega
            go_wp2_with (go_at_call 9; refine (run_Run.word_calls u _).mono ?_; rintro e w3 ⟨rfl, nq, rfl⟩)
            go_roundg gk
            case measure => omega
            case rel =>
              have hv := Rn.Row.set (W := wr.drewN nq) HV.out k (u % 65536)
              rw [HFILL.out] at hv
              exact ⟨k + 1, by rw [Int.natCast_add]; rfl, by omega, by omega, ⟨(HS.out.drewN nq).nset vb k (by omega) (by simp [Value.ownBlock]) _⟩, ⟨(Below.heap_setCell _ _ _ w.heap.size (by show w.heap.size ≠ vb; omega)).trans HO.out⟩, ⟨(Below.heap_setCell _ _ _ (w.heap.size + 1 + 1) (by show w.heap.size + 1 + 1 ≠ vb; omega)).trans HM.out⟩, ⟨(pw_below_drewN HB.out nq).setCell (p := ⟨vb, k, none⟩) (by show w.heap.size ≤ vb; omega) _⟩, ⟨hv⟩⟩
          · obtain rfl : k = args.length := by omega
            have ew : run_Run.vals args args.length = run_Run.word args := by
              unfold run_Run.vals run_Run.word
              rw [List.take_length, Nat.sub_self, List.replicate_zero, List.append_nil]
            rw [ew] at HV
            have elw : (run_Run.word args).length = args.length := List.length_map _
            have HC := Aside0.mk (run_machine_call.calls mod fuel g name (run_Run.word args) 0 m1 q m' HGO.out w wr (w.heap.size + 1) A c (.slice none 0 0) (some ⟨vb, 0, none⟩) args.length HMOD.out hmc HB.out HS.out (HV.out.C (by omega)) (by omega) (by omega))
            rw [elw] at HC
            have hlt0 : w.heap.size < wr.heap.size := (Array.getElem?_eq_some_iff.1 HO.out).1
            have hlt2 : w.heap.size + 1 + 1 < wr.heap.size := (Array.getElem?_eq_some_iff.1 HM.out).1
            have hon : ∀ k : Nat, some k ≠ (Value.slice none 0 0).ownBlock := fun k => by simp [Value.ownBlock]
            clear HGO ew elw hgg hk hkl HARGS HMOD
            have y0 : wr.cell? ⟨w.heap.size + 1 + 1, 0, none⟩ = some (.pointer (some ⟨w.heap.size + 1, 0, none⟩)) := cell_of_row wr _ 0 _ _ _ HM.out
            cases q with
            | val v =>
              dsimp only [run_machine_call.ending] at HC
              go_wp2_with (go_at_call 15; (with_reducible refine HC.out.mono ?_); rintro e w9 ⟨rfl, tv, hs9, hf9⟩; have HS := Aside0.mk hs9; have HO : Aside0 (run_Run.Ob w9 w.heap.size 0 0 (.slice none 0 0) (.slice none 0 0) 0) := ⟨(hf9.f w.heap.size hlt0 (by omega) (hon _)).trans HO.out⟩; have HM := Aside0.mk ((hf9.f (w.heap.size + 1 + 1) hlt2 (by omega) (hon _)).trans HM.out); have HB := Aside0.mk (HB.out.trans hf9.b); have HG9 := Aside0.mk hf9.g; clear hf9 hs9; have o0 : w9.cell? ⟨w.heap.size, 0, none⟩ = some (.int .i64 0) := cell_of_row w9 _ 0 _ _ _ HO.out; have o1 : w9.cell? ⟨w.heap.size, 1, none⟩ = some (.int .i64 0) := cell_of_row w9 _ 1 _ _ _ HO.out; have o2 : w9.cell? ⟨w.heap.size, 2, none⟩ = some (.slice none 0 0) := cell_of_row w9 _ 2 _ _ _ HO.out; have o3 : w9.cell? ⟨w.heap.size, 3, none⟩ = some (.slice none 0 0) := cell_of_row w9 _ 3 _ _ _ HO.out; have o4 : w9.cell? ⟨w.heap.size, 4, none⟩ = some (.int .i64 0) := cell_of_row w9 _ 4 _ _ _ HO.out; have ofz : ∀ i, w9.frozen? ⟨w.heap.size, i, none⟩ = false := fun i => by simp only [World.frozen?]; rw [HO.out]; rfl)
              have hgo : some w.heap.size ≠ tv.ownBlock := fun e => by
                rcases HG9.out _ e with q | q
                · exact hon _ q
                · omega
              have HS : Aside0 (Rn.St (((((w9.setCell ⟨w.heap.size, 0, none⟩ (.int .i64 1)).setCell ⟨w.heap.size, 1, none⟩ (.int .i64 v)).setCell ⟨w.heap.size, 2, none⟩ (.slice none 0 0)).setCell ⟨w.heap.size, 3, none⟩ (.slice none 0 0)).setCell ⟨w.heap.size, 4, none⟩ (.int .i64 0)) w.heap.size (w.heap.size + 1) A mod.length c fuel m' tv) := ⟨((((HS.out.nset _ 0 (by omega) hgo _).nset _ 1 (by omega) hgo _).nset _ 2 (by omega) hgo _).nset _ 3 (by omega) hgo _).nset _ 4 (by omega) hgo _⟩
              have HO : Aside0 (run_Run.Ob (((((w9.setCell ⟨w.heap.size, 0, none⟩ (.int .i64 1)).setCell ⟨w.heap.size, 1, none⟩ (.int .i64 v)).setCell ⟨w.heap.size, 2, none⟩ (.slice none 0 0)).setCell ⟨w.heap.size, 3, none⟩ (.slice none 0 0)).setCell ⟨w.heap.size, 4, none⟩ (.int .i64 0)) w.heap.size 1 v (.slice none 0 0) (.slice none 0 0) 0) := ⟨blk_set (blk_set (blk_set (blk_set (blk_set HO.out 0 (.int .i64 1)) 1 (.int .i64 v)) 2 (.slice none 0 0)) 3 (.slice none 0 0)) 4 (.int .i64 0)⟩
              have HM : Aside0 ((((((w9.setCell ⟨w.heap.size, 0, none⟩ (.int .i64 1)).setCell ⟨w.heap.size, 1, none⟩ (.int .i64 v)).setCell ⟨w.heap.size, 2, none⟩ (.slice none 0 0)).setCell ⟨w.heap.size, 3, none⟩ (.slice none 0 0)).setCell ⟨w.heap.size, 4, none⟩ (.int .i64 0)).heap[w.heap.size + 1 + 1]? = some (.cells #[.pointer (some ⟨w.heap.size + 1, 0, none⟩)] 42)) := ⟨blk_far (blk_far (blk_far (blk_far (blk_far HM.out (p := ⟨w.heap.size, 0, none⟩) (by show w.heap.size + 1 + 1 ≠ w.heap.size; omega) _) (p := ⟨w.heap.size, 1, none⟩) (by show w.heap.size + 1 + 1 ≠ w.heap.size; omega) _) (p := ⟨w.heap.size, 2, none⟩) (by show w.heap.size + 1 + 1 ≠ w.heap.size; omega) _) (p := ⟨w.heap.size, 3, none⟩) (by show w.heap.size + 1 + 1 ≠ w.heap.size; omega) _) (p := ⟨w.heap.size, 4, none⟩) (by show w.heap.size + 1 + 1 ≠ w.heap.size; omega) _⟩
              have HB : Aside0 (Below w.heap.size w (((((w9.setCell ⟨w.heap.size, 0, none⟩ (.int .i64 1)).setCell ⟨w.heap.size, 1, none⟩ (.int .i64 v)).setCell ⟨w.heap.size, 2, none⟩ (.slice none 0 0)).setCell ⟨w.heap.size, 3, none⟩ (.slice none 0 0)).setCell ⟨w.heap.size, 4, none⟩ (.int .i64 0))) := ⟨((((HB.out.setCell (p := ⟨w.heap.size, 0, none⟩) (Nat.le_refl _) _).setCell (p := ⟨w.heap.size, 1, none⟩) (Nat.le_refl _) _).setCell (p := ⟨w.heap.size, 2, none⟩) (Nat.le_refl _) _).setCell (p := ⟨w.heap.size, 3, none⟩) (Nat.le_refl _) _).setCell (p := ⟨w.heap.size, 4, none⟩) (Nat.le_refl _) _⟩
              clear o0 o1 o2 o3 o4 ofz
              generalize (((((w9.setCell ⟨w.heap.size, 0, none⟩ (.int .i64 1)).setCell ⟨w.heap.size, 1, none⟩ (.int .i64 v)).setCell ⟨w.heap.size, 2, none⟩ (.slice none 0 0)).setCell ⟨w.heap.size, 3, none⟩ (.slice none 0 0)).setCell ⟨w.heap.size, 4, none⟩ (.int .i64 0)) = w10 at HS HO HM HB ⊢
              have y9 : w10.cell? ⟨w.heap.size + 1 + 1, 0, none⟩ = some (.pointer (some ⟨w.heap.size + 1, 0, none⟩)) := cell_of_row w10 _ 0 _ _ _ HM.out
              refine leaves_cons (f := 13) (args := #[.pointer (some ⟨w.heap.size, 0, none⟩), .pointer (some ⟨w.heap.size + 1 + 1, 0, none⟩)]) (by simp) (by simp [go_sem]) ?_
              refine (run_Run.d_ret w.heap.size (w.heap.size + 1 + 1) w.heap.size (w.heap.size + 1) A mod.length c fuel m' tv 1 v w10 HS.out y9 HO.out (by omega) hgo).mono ?_
              rintro e u' w'' ⟨rfl, rfl, mv, ho, hr, hg⟩
              have HS2 := Aside0.mk (HS.out.grown hg (by omega) hgo)
              have HR2 := Aside0.mk (Kd.R_lower hr HB.out.size)
              have HB2 := Aside0.mk (HB.out.grown hg HB.out.size (fun k e => by cases e; exact Nat.le_refl _))
              obtain ⟨Atv, ctv, etv⟩ := Kd.R_slice HS2.out.tr
              obtain ⟨Amv, cmv, emv⟩ := Kd.R_slice hr
              subst etv
              subst emv
              have p0 : w''.cell? ⟨w.heap.size, 0, none⟩ = some (.int .i64 1) := cell_of_row w'' _ 0 _ _ _ ho
              have p1 : w''.cell? ⟨w.heap.size, 1, none⟩ = some (.int .i64 v) := cell_of_row w'' _ 1 _ _ _ ho
              have p2 : w''.cell? ⟨w.heap.size, 2, none⟩ = some (.slice Atv m'.told.length ctv) := cell_of_row w'' _ 2 _ _ _ ho
              have p3 : w''.cell? ⟨w.heap.size, 3, none⟩ = some (.slice Amv m'.mem.length cmv) := cell_of_row w'' _ 3 _ _ _ ho
              have p4 : w''.cell? ⟨w.heap.size, 4, none⟩ = some (.int .i64 m'.steps) := cell_of_row w'' _ 4 _ _ _ ho
              clear ho hr hg
              simp [Leaves, settle, results, Try.results11, go_sem, p0, p1, p2, p3, p4]
              exact ⟨_, _, ⟨rfl, rfl, rfl, rfl⟩, HS2.out.tr, HR2.out, HB2.out⟩
            | trap =>
              dsimp only [run_machine_call.ending] at HC
              go_wp2_with (go_at_call 15; (with_reducible refine HC.out.mono ?_); rintro e w9 ⟨rfl, tv, hs9, hf9⟩; have HS := Aside0.mk hs9; have HO : Aside0 (run_Run.Ob w9 w.heap.size 0 0 (.slice none 0 0) (.slice none 0 0) 0) := ⟨(hf9.f w.heap.size hlt0 (by omega) (hon _)).trans HO.out⟩; have HM := Aside0.mk ((hf9.f (w.heap.size + 1 + 1) hlt2 (by omega) (hon _)).trans HM.out); have HB := Aside0.mk (HB.out.trans hf9.b); have HG9 := Aside0.mk hf9.g; clear hf9 hs9)
              have hgo : some w.heap.size ≠ tv.ownBlock := fun e => by
                rcases HG9.out _ e with q | q
                · exact hon _ q
                · omega
              have y9 : w9.cell? ⟨w.heap.size + 1 + 1, 0, none⟩ = some (.pointer (some ⟨w.heap.size + 1, 0, none⟩)) := cell_of_row w9 _ 0 _ _ _ HM.out
              refine leaves_cons (f := 13) (args := #[.pointer (some ⟨w.heap.size, 0, none⟩), .pointer (some ⟨w.heap.size + 1 + 1, 0, none⟩)]) (by simp) (by simp [go_sem]) ?_
              refine (run_Run.d_trap w.heap.size (w.heap.size + 1 + 1) w.heap.size (w.heap.size + 1) A mod.length c fuel m' tv 0 0 w9 HS.out y9 HO.out (by omega) hgo).mono ?_
              rintro e u' w'' ⟨rfl, rfl, mv, ho, hr, hg⟩
              have HS2 := Aside0.mk (HS.out.grown hg (by omega) hgo)
              have HR2 := Aside0.mk (Kd.R_lower hr HB.out.size)
              have HB2 := Aside0.mk (HB.out.grown hg HB.out.size (fun k e => by cases e; exact Nat.le_refl _))
              obtain ⟨Atv, ctv, etv⟩ := Kd.R_slice HS2.out.tr
              obtain ⟨Amv, cmv, emv⟩ := Kd.R_slice hr
              subst etv
              subst emv
              have p0 : w''.cell? ⟨w.heap.size, 0, none⟩ = some (.int .i64 2) := cell_of_row w'' _ 0 _ _ _ ho
              have p1 : w''.cell? ⟨w.heap.size, 1, none⟩ = some (.int .i64 0) := cell_of_row w'' _ 1 _ _ _ ho
              have p2 : w''.cell? ⟨w.heap.size, 2, none⟩ = some (.slice Atv m'.told.length ctv) := cell_of_row w'' _ 2 _ _ _ ho
              have p3 : w''.cell? ⟨w.heap.size, 3, none⟩ = some (.slice Amv m'.mem.length cmv) := cell_of_row w'' _ 3 _ _ _ ho
              have p4 : w''.cell? ⟨w.heap.size, 4, none⟩ = some (.int .i64 m'.steps) := cell_of_row w'' _ 4 _ _ _ ho
              clear ho hr hg
              simp [Leaves, settle, results, Try.results11, go_sem, p0, p1, p2, p3, p4]
              exact ⟨_, _, ⟨rfl, rfl, rfl, rfl⟩, HS2.out.tr, HR2.out, HB2.out⟩
            | out =>
              dsimp only [run_machine_call.ending] at HC
              go_wp2_with (go_at_call 15; (with_reducible refine HC.out.mono ?_); rintro e w9 ⟨rfl, tv, hs9, hf9⟩; have HS := Aside0.mk hs9; have HO : Aside0 (run_Run.Ob w9 w.heap.size 0 0 (.slice none 0 0) (.slice none 0 0) 0) := ⟨(hf9.f w.heap.size hlt0 (by omega) (hon _)).trans HO.out⟩; have HM := Aside0.mk ((hf9.f (w.heap.size + 1 + 1) hlt2 (by omega) (hon _)).trans HM.out); have HB := Aside0.mk (HB.out.trans hf9.b); have HG9 := Aside0.mk hf9.g; clear hf9 hs9)
              have hgo : some w.heap.size ≠ tv.ownBlock := fun e => by
                rcases HG9.out _ e with q | q
                · exact hon _ q
                · omega
              have y9 : w9.cell? ⟨w.heap.size + 1 + 1, 0, none⟩ = some (.pointer (some ⟨w.heap.size + 1, 0, none⟩)) := cell_of_row w9 _ 0 _ _ _ HM.out
              refine leaves_cons (f := 13) (args := #[.pointer (some ⟨w.heap.size, 0, none⟩), .pointer (some ⟨w.heap.size + 1 + 1, 0, none⟩)]) (by simp) (by simp [go_sem]) ?_
              refine (run_Run.d_out w.heap.size (w.heap.size + 1 + 1) w.heap.size (w.heap.size + 1) A mod.length c fuel m' tv 0 0 w9 HS.out y9 HO.out (by omega) hgo).mono ?_
              rintro e u' w'' ⟨rfl, rfl, mv, ho, hr, hg⟩
              have HS2 := Aside0.mk (HS.out.grown hg (by omega) hgo)
              have HR2 := Aside0.mk (Kd.R_lower hr HB.out.size)
              have HB2 := Aside0.mk (HB.out.grown hg HB.out.size (fun k e => by cases e; exact Nat.le_refl _))
              obtain ⟨Atv, ctv, etv⟩ := Kd.R_slice HS2.out.tr
              obtain ⟨Amv, cmv, emv⟩ := Kd.R_slice hr
              subst etv
              subst emv
              have p0 : w''.cell? ⟨w.heap.size, 0, none⟩ = some (.int .i64 3) := cell_of_row w'' _ 0 _ _ _ ho
              have p1 : w''.cell? ⟨w.heap.size, 1, none⟩ = some (.int .i64 0) := cell_of_row w'' _ 1 _ _ _ ho
              have p2 : w''.cell? ⟨w.heap.size, 2, none⟩ = some (.slice Atv m'.told.length ctv) := cell_of_row w'' _ 2 _ _ _ ho
              have p3 : w''.cell? ⟨w.heap.size, 3, none⟩ = some (.slice Amv m'.mem.length cmv) := cell_of_row w'' _ 3 _ _ _ ho
              have p4 : w''.cell? ⟨w.heap.size, 4, none⟩ = some (.int .i64 m'.steps) := cell_of_row w'' _ 4 _ _ _ ho
              clear ho hr hg
              simp [Leaves, settle, results, Try.results11, go_sem, p0, p1, p2, p3, p4]
              exact ⟨_, _, ⟨rfl, rfl, rfl, rfl⟩, HS2.out.tr, HR2.out, HB2.out⟩
  · have hM2 : (256 : Int) < (mem.length : Int) := by omega
    go_enter_defers Try.func11, Try.ntmps11
    go_wp2_with (fail)
    have HS : Aside0 (Rn.St (((w.alloc (.cells #[.int .i64 0, .int .i64 0, .slice none 0 0, .slice none 0 0, .int .i64 0] 37)).alloc (.cells ((run_Run.Z.setIfInBounds 0 (.slice A mod.length c)).setIfInBounds 258 (.int .i64 fuel)) 45)).alloc (.cells #[.pointer (some ⟨w.heap.size + 1, 0, none⟩)] 42)) w.heap.size (w.heap.size + 1) A mod.length c fuel ⟨run_Run.filled mem 0, [], 0⟩ (.slice none 0 0)) := ⟨by
      have e := Hw.blk_al (Hw.blk_nw1 w (.cells #[.int .i64 0, .int .i64 0, .slice none 0 0, .slice none 0 0, .int .i64 0] 37) (.cells ((run_Run.Z.setIfInBounds 0 (.slice A mod.length c)).setIfInBounds 258 (.int .i64 fuel)) 45)) (.cells #[.pointer (some ⟨w.heap.size + 1, 0, none⟩)] 42)
      rw [run_Run.Z_set] at e ⊢
      exact ⟨e, (run_Run.filled_len mem 0 (by decide)).resolve_right (by omega), Nat.le_succ _, Kd.R_nil _ _ _ _ _, by simp; omega, ⟨Int.le_refl _, by show (0 : Int) ≤ 1048576; decide⟩, ⟨Int.le_of_lt hf2, hf1⟩⟩⟩
    have HO : Aside0 (run_Run.Ob (((w.alloc (.cells #[.int .i64 0, .int .i64 0, .slice none 0 0, .slice none 0 0, .int .i64 0] 37)).alloc (.cells ((run_Run.Z.setIfInBounds 0 (.slice A mod.length c)).setIfInBounds 258 (.int .i64 fuel)) 45)).alloc (.cells #[.pointer (some ⟨w.heap.size + 1, 0, none⟩)] 42)) w.heap.size 0 0 (.slice none 0 0) (.slice none 0 0) 0) := ⟨Hw.blk_al (Hw.blk_al (Hw.blk_nw w (.cells #[.int .i64 0, .int .i64 0, .slice none 0 0, .slice none 0 0, .int .i64 0] 37)) (.cells ((run_Run.Z.setIfInBounds 0 (.slice A mod.length c)).setIfInBounds 258 (.int .i64 fuel)) 45)) (.cells #[.pointer (some ⟨w.heap.size + 1, 0, none⟩)] 42)⟩
    have HM : Aside0 ((((w.alloc (.cells #[.int .i64 0, .int .i64 0, .slice none 0 0, .slice none 0 0, .int .i64 0] 37)).alloc (.cells ((run_Run.Z.setIfInBounds 0 (.slice A mod.length c)).setIfInBounds 258 (.int .i64 fuel)) 45)).alloc (.cells #[.pointer (some ⟨w.heap.size + 1, 0, none⟩)] 42)).heap[w.heap.size + 1 + 1]? = some (.cells #[.pointer (some ⟨w.heap.size + 1, 0, none⟩)] 42)) := ⟨Hw.blk_nw2 w (.cells #[.int .i64 0, .int .i64 0, .slice none 0 0, .slice none 0 0, .int .i64 0] 37) (.cells ((run_Run.Z.setIfInBounds 0 (.slice A mod.length c)).setIfInBounds 258 (.int .i64 fuel)) 45) (.cells #[.pointer (some ⟨w.heap.size + 1, 0, none⟩)] 42)⟩
    have HB := Aside0.mk ((((Below.refl w.heap.size w).alloc (Nat.le_refl _) (.cells #[.int .i64 0, .int .i64 0, .slice none 0 0, .slice none 0 0, .int .i64 0] 37)).alloc (by simp) (.cells ((run_Run.Z.setIfInBounds 0 (.slice A mod.length c)).setIfInBounds 258 (.int .i64 fuel)) 45)).alloc (by simp; omega) (.cells #[.pointer (some ⟨w.heap.size + 1, 0, none⟩)] 42))
    generalize ((w.alloc (.cells #[.int .i64 0, .int .i64 0, .slice none 0 0, .slice none 0 0, .int .i64 0] 37)).alloc (.cells ((run_Run.Z.setIfInBounds 0 (.slice A mod.length c)).setIfInBounds 258 (.int .i64 fuel)) 45)).alloc (.cells #[.pointer (some ⟨w.heap.size + 1, 0, none⟩)] 42) = W1 at HS HO HM HB ⊢
    clear hz hzs hz2 hz3
    go_loopg [30] 256 (fun gg v30 wq => ∃ k : Nat, v30 = .int .i64 (k : Int) ∧ k ≤ 256 ∧ 256 - k ≤ gg ∧ Aside0 (Rn.St wq w.heap.size (w.heap.size + 1) A mod.length c fuel ⟨run_Run.filled mem k, [], 0⟩ (.slice none 0 0)) ∧ Aside0 (run_Run.Ob wq w.heap.size 0 0 (.slice none 0 0) (.slice none 0 0) 0) ∧ Aside0 (wq.heap[w.heap.size + 1 + 1]? = some (.cells #[.pointer (some ⟨w.heap.size + 1, 0, none⟩)] 42)) ∧ Aside0 (Below w.heap.size w wq))
    case atStart => exact ⟨0, rfl, Nat.zero_le _, by omega, HS, HO, HM, HB⟩
    case round =>
      clear HS HO HM HB
      obtain ⟨k, rfl, hk, hgg, HS, HO, HM, HB⟩ := hrel
      by_cases hkl : k < 256
      · as_aux_lemma =>
        obtain ⟨gk, rfl⟩ : ∃ q, gk = q + 1 := by
          cases gk with
          | zero => omega
          | succ q => exact ⟨q, rfl⟩
        have hk256 : k < 256 := by omega
        obtain ⟨adm, rfl, a1⟩ := Kd.at_int (Kd.C_below HMEM.out HB.out) (k : Int) (by omega) (by omega)
        rw [Int.toNat_natCast] at a1
        have HFILL := Aside0.mk (run_Run.filled_set mem k hk256 (by omega))
        have e1 : rd mem (k : Int) = mem.getD k 0 := by unfold rd; rw [Int.toNat_natCast]
        rw [e1] at a1
        generalize mem.getD k 0 = u at a1 HFILL
        clear e1
        have y0 : wr.cell? ⟨w.heap.size + 1 + 1, 0, none⟩ = some (.pointer (some ⟨w.heap.size + 1, 0, none⟩)) := cell_of_row wr _ 0 _ _ _ HM.out
        have cmm := HS.out.atm k hk256
        have cmf := HS.out.fz (1 + k)
        have zk : (k : Int) < (256 : Nat) := by omega
        have zk2 : (k : Int) < 256 := by omega
        go_upto_region 5 with fail
        refine run_Run.wp_normal ?_
        -- REGION 5 B BEGINS
        refine start_ (n := 8) (S := fun w' => w'.cell? ⟨w.heap.size + 1 + 1, 0, none⟩ = some (.pointer (some ⟨w.heap.size + 1, 0, none⟩))) (ds := [7]) #[false, false, false, false, false, false, false, false] (by kernel_rfl) rfl rfl (y0) (fun hHeld => ?_)
        refine pure_ (i := 1) (N := some 36) (v := ?_) (a' := ?_) #[false, true, false, false, false, false, false, false] rfl rfl (by kernel_rfl) (fun _ _ _ h => h) (Or.inl ⟨by rfl, ?_⟩) ?_ ?_
        rotate_left
        · intro w'
          go_simp
          with_reducible rfl
        rotate_left
        · simp only [Act.put, List.setIfInBounds_toArray, List.set_cons_zero, List.set_cons_succ, i64_w, i32_w]
          rfl
        refine pure_ (i := 2) (N := some 37) (v := ?_) (a' := ?_) #[false, true, true, false, false, false, false, false] rfl rfl (by kernel_rfl) (fun _ _ _ h => h) (Or.inl ⟨by rfl, ?_⟩) ?_ ?_
        rotate_left
        · intro w'
          go_simp
          with_reducible rfl
        rotate_left
        · simp only [Act.put, List.setIfInBounds_toArray, List.set_cons_zero, List.set_cons_succ, i64_w, i32_w]
          rfl
        refine take_ (i := 0) (N := some 35) (v := ?_) (a' := ?_) #[true, true, true, false, false, false, false, false] rfl rfl (by kernel_rfl) (fun _ _ _ h => h) (Or.inl ⟨by rfl, ?_⟩) hHeld ?_ ?_
        rotate_left
        · intro w' s0
          go_simp
          with_reducible rfl
        rotate_left
        · simp only [Act.put, List.setIfInBounds_toArray, List.set_cons_zero, List.set_cons_succ, i64_w, i32_w]
          rfl
        refine pure_ (i := 4) (N := some 39) (v := ?_) (a' := ?_) #[true, true, true, false, true, false, false, false] rfl rfl (by kernel_rfl) (fun _ _ _ h => h) (Or.inl ⟨by rfl, ?_⟩) ?_ ?_
        rotate_left
        · intro w'
          go_simp
          with_reducible rfl
        rotate_left
        · simp only [Act.put, List.setIfInBounds_toArray, List.set_cons_zero, List.set_cons_succ, i64_w, i32_w]
          rfl
        refine pure_ (i := 5) (N := some 40) (v := ?_) (a' := ?_) #[true, true, true, false, true, true, false, false] rfl rfl (by kernel_rfl) (fun _ _ _ h => h) (Or.inl ⟨by rfl, ?_⟩) ?_ ?_
        rotate_left
        · intro w'
          go_simp
          with_reducible rfl
        rotate_left
        · simp only [Act.put, List.setIfInBounds_toArray, List.set_cons_zero, List.set_cons_succ, i64_w, i32_w]
          rfl
        refine one_ (i := 3) (N := some 38) #[true, true, true, true, true, true, false, false] rfl rfl (by kernel_rfl) (by decide) (fun K hK => ?_)
        refine goes_ Try.func9 (by kernel_rfl) rfl #[.int .i64 u] (by rfl) rfl rfl (by simp only [List.map_toArray, List.map_cons, List.map_nil]; rfl) ?_
        with_reducible refine (run_Run.word_calls u _).mono ?_
        rintro e w3 ⟨rfl, nq, rfl⟩
        refine ⟨_, rfl, ?_⟩
        refine hK.out _ _ (y0) (fun hHeld => ?_)
        clear hK K
        refine norm_ (a' := ?_) ?_ ?_
        rotate_left
        · show Act.put _ (some 38) _ = _
          simp only [Act.put, List.setIfInBounds_toArray, List.set_cons_zero, List.set_cons_succ, i64_w, i32_w]
          rfl
        refine pure_ (i := 6) (N := some 41) (v := ?_) (a' := ?_) #[true, true, true, true, true, true, true, false] rfl rfl (by kernel_rfl) (fun _ _ _ h => h) (Or.inl ⟨by rfl, ?_⟩) ?_ ?_
        rotate_left
        · intro w'
          go_simp
          with_reducible rfl
        rotate_left
        · simp only [Act.put, List.setIfInBounds_toArray, List.set_cons_zero, List.set_cons_succ, i64_w, i32_w]
          rfl
        refine last_ (i := 7) (N := none) #[true, true, true, true, true, true, true, true] rfl rfl (by kernel_rfl) (by decide) (fun K hK => ?_)
        refine skip_ (w1 := ?_) (by rfl) rfl ?_ ?_
        rotate_left
        · go_simp
          rfl
        refine hK.out _ _ ?_
        clear hK K
        refine done_ (by kernel_rfl) ?_
        -- REGION 5 B ENDS
        dsimp only [run_Run.NQ]
        go_wp2_with (fail)
        go_roundg gk
        case measure => omega
        case rel =>
          have hs := (HS.out.drewN (1 + nq)).store k hk256 (u % 65536)
          simp only [HFILL.out] at hs
          exact ⟨k + 1, by rw [Int.natCast_add]; rfl, by omega, by omega, ⟨hs⟩, ⟨(Below.heap_setCell _ _ _ w.heap.size (by show w.heap.size ≠ w.heap.size + 1; omega)).trans HO.out⟩, ⟨(Below.heap_setCell _ _ _ (w.heap.size + 1 + 1) (by show w.heap.size + 1 + 1 ≠ w.heap.size + 1; omega)).trans HM.out⟩, ⟨(pw_below_drewN HB.out (1 + nq)).setCell (p := ⟨w.heap.size + 1, 1 + k, none⟩) (by show w.heap.size ≤ w.heap.size + 1; omega) _⟩⟩
      · obtain rfl : k = 256 := by omega
        have hmin : min mem.length 256 = 256 := by omega
        rw [hmin] at HGO
        generalize (⟨run_Run.filled mem 256, [], 0⟩ : Rn.M) = m1 at HGO HS
        have hmf : ∀ (fn : Fn) (first cap : Array Value) (w : World), (Instr.makeFunc fn first cap).run Try.prog w = .ok (.func fn first cap) w := fun _ _ _ _ => rfl
        have hmk := (Rn.made wr args.length).resolve_right (by omega)
        have hvb : w.heap.size + 1 + 1 < wr.heap.size := (Array.getElem?_eq_some_iff.1 HM.out).1
        clear HMEM hgg hk hkl
        go_wp2_with (fail)
        have HV : Aside0 (Rn.Row (wr.alloc (.cells (Array.replicate args.length (.int .i64 0)) 3)) wr.heap.size (run_Run.vals args 0)) := ⟨by
          unfold Rn.Row run_Run.vals
          rw [Hw.blk_nw wr (.cells (Array.replicate args.length (.int .i64 0)) 3)]
          simp⟩
        have HS := Aside0.mk (HS.out.alloc (.cells (Array.replicate args.length (.int .i64 0)) 3))
        have HO : Aside0 (run_Run.Ob (wr.alloc (.cells (Array.replicate args.length (.int .i64 0)) 3)) w.heap.size 0 0 (.slice none 0 0) (.slice none 0 0) 0) := ⟨Hw.blk_al HO.out _⟩
        have HM := Aside0.mk (Hw.blk_al HM.out (.cells (Array.replicate args.length (.int .i64 0)) 3))
        have HB := Aside0.mk (HB.out.alloc HB.out.size (.cells (Array.replicate args.length (.int .i64 0)) 3))
        clear hmk
        generalize wr.heap.size = vb at hvb HV ⊢
        generalize wr.alloc (.cells (Array.replicate args.length (.int .i64 0)) 3) = W2 at HV HS HO HM HB ⊢
        go_loopg [49] args.length (fun gg v49 wq => ∃ k : Nat, v49 = .int .i64 (k : Int) ∧ k ≤ args.length ∧ args.length - k ≤ gg ∧ Aside0 (Rn.St wq w.heap.size (w.heap.size + 1) A mod.length c fuel m1 (.slice none 0 0)) ∧ Aside0 (run_Run.Ob wq w.heap.size 0 0 (.slice none 0 0) (.slice none 0 0) 0) ∧ Aside0 (wq.heap[w.heap.size + 1 + 1]? = some (.cells #[.pointer (some ⟨w.heap.size + 1, 0, none⟩)] 42)) ∧ Aside0 (Below w.heap.size w wq) ∧ Aside0 (Rn.Row wq vb (run_Run.vals args k)))
        case atStart => exact ⟨0, rfl, Nat.zero_le _, by omega, HS, HO, HM, HB, HV⟩
        case round =>
          clear HS HO HM HB HV
          obtain ⟨k, rfl, hk, hgg, HS, HO, HM, HB, HV⟩ := hrel
          by_cases hkl : k < args.length
          · as_aux_lemma =>
            obtain ⟨gk, rfl⟩ : ∃ q, gk = q + 1 := by
              cases gk with
              | zero => omega
              | succ q => exact ⟨q, rfl⟩
            obtain ⟨ada, rfl, a1⟩ := Kd.at_int (Kd.C_below HARGS.out HB.out) (k : Int) (by omega) (by omega)
            rw [Int.toNat_natCast] at a1
            have HFILL := Aside0.mk (run_Run.vals_set args k hkl)
            have e1 : rd args (k : Int) = args.getD k 0 := by unfold rd; rw [Int.toNat_natCast]
            rw [e1] at a1
            generalize args.getD k 0 = u at a1 HFILL
            clear e1
            obtain ⟨c2, f2⟩ := HV.out.cell k (by rw [run_Run.vals_len]; exact hkl)
            have zk : (k : Int) < (args.length : Int) := by omega
            go_wp2_with (go_at_call 9; refine (run_Run.word_calls u _).mono ?_; rintro e w3 ⟨rfl, nq, rfl⟩)
            go_roundg gk
            case measure => omega
            case rel =>
              have hv := Rn.Row.set (W := wr.drewN nq) HV.out k (u % 65536)
              rw [HFILL.out] at hv
              exact ⟨k + 1, by rw [Int.natCast_add]; rfl, by omega, by omega, ⟨(HS.out.drewN nq).nset vb k (by omega) (by simp [Value.ownBlock]) _⟩, ⟨(Below.heap_setCell _ _ _ w.heap.size (by show w.heap.size ≠ vb; omega)).trans HO.out⟩, ⟨(Below.heap_setCell _ _ _ (w.heap.size + 1 + 1) (by show w.heap.size + 1 + 1 ≠ vb; omega)).trans HM.out⟩, ⟨(pw_below_drewN HB.out nq).setCell (p := ⟨vb, k, none⟩) (by show w.heap.size ≤ vb; omega) _⟩, ⟨hv⟩⟩
          · obtain rfl : k = args.length := by omega
            have ew : run_Run.vals args args.length = run_Run.word args := by
              unfold run_Run.vals run_Run.word
              rw [List.take_length, Nat.sub_self, List.replicate_zero, List.append_nil]
            rw [ew] at HV
            have elw : (run_Run.word args).length = args.length := List.length_map _
            have HC := Aside0.mk (run_machine_call.calls mod fuel g name (run_Run.word args) 0 m1 q m' HGO.out w wr (w.heap.size + 1) A c (.slice none 0 0) (some ⟨vb, 0, none⟩) args.length HMOD.out hmc HB.out HS.out (HV.out.C (by omega)) (by omega) (by omega))
            rw [elw] at HC
            have hlt0 : w.heap.size < wr.heap.size := (Array.getElem?_eq_some_iff.1 HO.out).1
            have hlt2 : w.heap.size + 1 + 1 < wr.heap.size := (Array.getElem?_eq_some_iff.1 HM.out).1
            have hon : ∀ k : Nat, some k ≠ (Value.slice none 0 0).ownBlock := fun k => by simp [Value.ownBlock]
            clear HGO ew elw hgg hk hkl HARGS HMOD
            have y0 : wr.cell? ⟨w.heap.size + 1 + 1, 0, none⟩ = some (.pointer (some ⟨w.heap.size + 1, 0, none⟩)) := cell_of_row wr _ 0 _ _ _ HM.out
            cases q with
            | val v =>
              dsimp only [run_machine_call.ending] at HC
              go_wp2_with (go_at_call 15; (with_reducible refine HC.out.mono ?_); rintro e w9 ⟨rfl, tv, hs9, hf9⟩; have HS := Aside0.mk hs9; have HO : Aside0 (run_Run.Ob w9 w.heap.size 0 0 (.slice none 0 0) (.slice none 0 0) 0) := ⟨(hf9.f w.heap.size hlt0 (by omega) (hon _)).trans HO.out⟩; have HM := Aside0.mk ((hf9.f (w.heap.size + 1 + 1) hlt2 (by omega) (hon _)).trans HM.out); have HB := Aside0.mk (HB.out.trans hf9.b); have HG9 := Aside0.mk hf9.g; clear hf9 hs9; have o0 : w9.cell? ⟨w.heap.size, 0, none⟩ = some (.int .i64 0) := cell_of_row w9 _ 0 _ _ _ HO.out; have o1 : w9.cell? ⟨w.heap.size, 1, none⟩ = some (.int .i64 0) := cell_of_row w9 _ 1 _ _ _ HO.out; have o2 : w9.cell? ⟨w.heap.size, 2, none⟩ = some (.slice none 0 0) := cell_of_row w9 _ 2 _ _ _ HO.out; have o3 : w9.cell? ⟨w.heap.size, 3, none⟩ = some (.slice none 0 0) := cell_of_row w9 _ 3 _ _ _ HO.out; have o4 : w9.cell? ⟨w.heap.size, 4, none⟩ = some (.int .i64 0) := cell_of_row w9 _ 4 _ _ _ HO.out; have ofz : ∀ i, w9.frozen? ⟨w.heap.size, i, none⟩ = false := fun i => by simp only [World.frozen?]; rw [HO.out]; rfl)
              have hgo : some w.heap.size ≠ tv.ownBlock := fun e => by
                rcases HG9.out _ e with q | q
                · exact hon _ q
                · omega
              have HS : Aside0 (Rn.St (((((w9.setCell ⟨w.heap.size, 0, none⟩ (.int .i64 1)).setCell ⟨w.heap.size, 1, none⟩ (.int .i64 v)).setCell ⟨w.heap.size, 2, none⟩ (.slice none 0 0)).setCell ⟨w.heap.size, 3, none⟩ (.slice none 0 0)).setCell ⟨w.heap.size, 4, none⟩ (.int .i64 0)) w.heap.size (w.heap.size + 1) A mod.length c fuel m' tv) := ⟨((((HS.out.nset _ 0 (by omega) hgo _).nset _ 1 (by omega) hgo _).nset _ 2 (by omega) hgo _).nset _ 3 (by omega) hgo _).nset _ 4 (by omega) hgo _⟩
              have HO : Aside0 (run_Run.Ob (((((w9.setCell ⟨w.heap.size, 0, none⟩ (.int .i64 1)).setCell ⟨w.heap.size, 1, none⟩ (.int .i64 v)).setCell ⟨w.heap.size, 2, none⟩ (.slice none 0 0)).setCell ⟨w.heap.size, 3, none⟩ (.slice none 0 0)).setCell ⟨w.heap.size, 4, none⟩ (.int .i64 0)) w.heap.size 1 v (.slice none 0 0) (.slice none 0 0) 0) := ⟨blk_set (blk_set (blk_set (blk_set (blk_set HO.out 0 (.int .i64 1)) 1 (.int .i64 v)) 2 (.slice none 0 0)) 3 (.slice none 0 0)) 4 (.int .i64 0)⟩
              have HM : Aside0 ((((((w9.setCell ⟨w.heap.size, 0, none⟩ (.int .i64 1)).setCell ⟨w.heap.size, 1, none⟩ (.int .i64 v)).setCell ⟨w.heap.size, 2, none⟩ (.slice none 0 0)).setCell ⟨w.heap.size, 3, none⟩ (.slice none 0 0)).setCell ⟨w.heap.size, 4, none⟩ (.int .i64 0)).heap[w.heap.size + 1 + 1]? = some (.cells #[.pointer (some ⟨w.heap.size + 1, 0, none⟩)] 42)) := ⟨blk_far (blk_far (blk_far (blk_far (blk_far HM.out (p := ⟨w.heap.size, 0, none⟩) (by show w.heap.size + 1 + 1 ≠ w.heap.size; omega) _) (p := ⟨w.heap.size, 1, none⟩) (by show w.heap.size + 1 + 1 ≠ w.heap.size; omega) _) (p := ⟨w.heap.size, 2, none⟩) (by show w.heap.size + 1 + 1 ≠ w.heap.size; omega) _) (p := ⟨w.heap.size, 3, none⟩) (by show w.heap.size + 1 + 1 ≠ w.heap.size; omega) _) (p := ⟨w.heap.size, 4, none⟩) (by show w.heap.size + 1 + 1 ≠ w.heap.size; omega) _⟩
              have HB : Aside0 (Below w.heap.size w (((((w9.setCell ⟨w.heap.size, 0, none⟩ (.int .i64 1)).setCell ⟨w.heap.size, 1, none⟩ (.int .i64 v)).setCell ⟨w.heap.size, 2, none⟩ (.slice none 0 0)).setCell ⟨w.heap.size, 3, none⟩ (.slice none 0 0)).setCell ⟨w.heap.size, 4, none⟩ (.int .i64 0))) := ⟨((((HB.out.setCell (p := ⟨w.heap.size, 0, none⟩) (Nat.le_refl _) _).setCell (p := ⟨w.heap.size, 1, none⟩) (Nat.le_refl _) _).setCell (p := ⟨w.heap.size, 2, none⟩) (Nat.le_refl _) _).setCell (p := ⟨w.heap.size, 3, none⟩) (Nat.le_refl _) _).setCell (p := ⟨w.heap.size, 4, none⟩) (Nat.le_refl _) _⟩
              clear o0 o1 o2 o3 o4 ofz
              generalize (((((w9.setCell ⟨w.heap.size, 0, none⟩ (.int .i64 1)).setCell ⟨w.heap.size, 1, none⟩ (.int .i64 v)).setCell ⟨w.heap.size, 2, none⟩ (.slice none 0 0)).setCell ⟨w.heap.size, 3, none⟩ (.slice none 0 0)).setCell ⟨w.heap.size, 4, none⟩ (.int .i64 0)) = w10 at HS HO HM HB ⊢
              have y9 : w10.cell? ⟨w.heap.size + 1 + 1, 0, none⟩ = some (.pointer (some ⟨w.heap.size + 1, 0, none⟩)) := cell_of_row w10 _ 0 _ _ _ HM.out
              refine leaves_cons (f := 13) (args := #[.pointer (some ⟨w.heap.size, 0, none⟩), .pointer (some ⟨w.heap.size + 1 + 1, 0, none⟩)]) (by simp) (by simp [go_sem]) ?_
              refine (run_Run.d_ret w.heap.size (w.heap.size + 1 + 1) w.heap.size (w.heap.size + 1) A mod.length c fuel m' tv 1 v w10 HS.out y9 HO.out (by omega) hgo).mono ?_
              rintro e u' w'' ⟨rfl, rfl, mv, ho, hr, hg⟩
              have HS2 := Aside0.mk (HS.out.grown hg (by omega) hgo)
              have HR2 := Aside0.mk (Kd.R_lower hr HB.out.size)
              have HB2 := Aside0.mk (HB.out.grown hg HB.out.size (fun k e => by cases e; exact Nat.le_refl _))
              obtain ⟨Atv, ctv, etv⟩ := Kd.R_slice HS2.out.tr
              obtain ⟨Amv, cmv, emv⟩ := Kd.R_slice hr
              subst etv
              subst emv
              have p0 : w''.cell? ⟨w.heap.size, 0, none⟩ = some (.int .i64 1) := cell_of_row w'' _ 0 _ _ _ ho
              have p1 : w''.cell? ⟨w.heap.size, 1, none⟩ = some (.int .i64 v) := cell_of_row w'' _ 1 _ _ _ ho
              have p2 : w''.cell? ⟨w.heap.size, 2, none⟩ = some (.slice Atv m'.told.length ctv) := cell_of_row w'' _ 2 _ _ _ ho
              have p3 : w''.cell? ⟨w.heap.size, 3, none⟩ = some (.slice Amv m'.mem.length cmv) := cell_of_row w'' _ 3 _ _ _ ho
              have p4 : w''.cell? ⟨w.heap.size, 4, none⟩ = some (.int .i64 m'.steps) := cell_of_row w'' _ 4 _ _ _ ho
              clear ho hr hg
              simp [Leaves, settle, results, Try.results11, go_sem, p0, p1, p2, p3, p4]
              exact ⟨_, _, ⟨rfl, rfl, rfl, rfl⟩, HS2.out.tr, HR2.out, HB2.out⟩
            | trap =>
              dsimp only [run_machine_call.ending] at HC
              go_wp2_with (go_at_call 15; (with_reducible refine HC.out.mono ?_); rintro e w9 ⟨rfl, tv, hs9, hf9⟩; have HS := Aside0.mk hs9; have HO : Aside0 (run_Run.Ob w9 w.heap.size 0 0 (.slice none 0 0) (.slice none 0 0) 0) := ⟨(hf9.f w.heap.size hlt0 (by omega) (hon _)).trans HO.out⟩; have HM := Aside0.mk ((hf9.f (w.heap.size + 1 + 1) hlt2 (by omega) (hon _)).trans HM.out); have HB := Aside0.mk (HB.out.trans hf9.b); have HG9 := Aside0.mk hf9.g; clear hf9 hs9)
              have hgo : some w.heap.size ≠ tv.ownBlock := fun e => by
                rcases HG9.out _ e with q | q
                · exact hon _ q
                · omega
              have y9 : w9.cell? ⟨w.heap.size + 1 + 1, 0, none⟩ = some (.pointer (some ⟨w.heap.size + 1, 0, none⟩)) := cell_of_row w9 _ 0 _ _ _ HM.out
              refine leaves_cons (f := 13) (args := #[.pointer (some ⟨w.heap.size, 0, none⟩), .pointer (some ⟨w.heap.size + 1 + 1, 0, none⟩)]) (by simp) (by simp [go_sem]) ?_
              refine (run_Run.d_trap w.heap.size (w.heap.size + 1 + 1) w.heap.size (w.heap.size + 1) A mod.length c fuel m' tv 0 0 w9 HS.out y9 HO.out (by omega) hgo).mono ?_
              rintro e u' w'' ⟨rfl, rfl, mv, ho, hr, hg⟩
              have HS2 := Aside0.mk (HS.out.grown hg (by omega) hgo)
              have HR2 := Aside0.mk (Kd.R_lower hr HB.out.size)
              have HB2 := Aside0.mk (HB.out.grown hg HB.out.size (fun k e => by cases e; exact Nat.le_refl _))
              obtain ⟨Atv, ctv, etv⟩ := Kd.R_slice HS2.out.tr
              obtain ⟨Amv, cmv, emv⟩ := Kd.R_slice hr
              subst etv
              subst emv
              have p0 : w''.cell? ⟨w.heap.size, 0, none⟩ = some (.int .i64 2) := cell_of_row w'' _ 0 _ _ _ ho
              have p1 : w''.cell? ⟨w.heap.size, 1, none⟩ = some (.int .i64 0) := cell_of_row w'' _ 1 _ _ _ ho
              have p2 : w''.cell? ⟨w.heap.size, 2, none⟩ = some (.slice Atv m'.told.length ctv) := cell_of_row w'' _ 2 _ _ _ ho
              have p3 : w''.cell? ⟨w.heap.size, 3, none⟩ = some (.slice Amv m'.mem.length cmv) := cell_of_row w'' _ 3 _ _ _ ho
              have p4 : w''.cell? ⟨w.heap.size, 4, none⟩ = some (.int .i64 m'.steps) := cell_of_row w'' _ 4 _ _ _ ho
              clear ho hr hg
              simp [Leaves, settle, results, Try.results11, go_sem, p0, p1, p2, p3, p4]
              exact ⟨_, _, ⟨rfl, rfl, rfl, rfl⟩, HS2.out.tr, HR2.out, HB2.out⟩
            | out =>
              dsimp only [run_machine_call.ending] at HC
              go_wp2_with (go_at_call 15; (with_reducible refine HC.out.mono ?_); rintro e w9 ⟨rfl, tv, hs9, hf9⟩; have HS := Aside0.mk hs9; have HO : Aside0 (run_Run.Ob w9 w.heap.size 0 0 (.slice none 0 0) (.slice none 0 0) 0) := ⟨(hf9.f w.heap.size hlt0 (by omega) (hon _)).trans HO.out⟩; have HM := Aside0.mk ((hf9.f (w.heap.size + 1 + 1) hlt2 (by omega) (hon _)).trans HM.out); have HB := Aside0.mk (HB.out.trans hf9.b); have HG9 := Aside0.mk hf9.g; clear hf9 hs9)
              have hgo : some w.heap.size ≠ tv.ownBlock := fun e => by
                rcases HG9.out _ e with q | q
                · exact hon _ q
                · omega
              have y9 : w9.cell? ⟨w.heap.size + 1 + 1, 0, none⟩ = some (.pointer (some ⟨w.heap.size + 1, 0, none⟩)) := cell_of_row w9 _ 0 _ _ _ HM.out
              refine leaves_cons (f := 13) (args := #[.pointer (some ⟨w.heap.size, 0, none⟩), .pointer (some ⟨w.heap.size + 1 + 1, 0, none⟩)]) (by simp) (by simp [go_sem]) ?_
              refine (run_Run.d_out w.heap.size (w.heap.size + 1 + 1) w.heap.size (w.heap.size + 1) A mod.length c fuel m' tv 0 0 w9 HS.out y9 HO.out (by omega) hgo).mono ?_
              rintro e u' w'' ⟨rfl, rfl, mv, ho, hr, hg⟩
              have HS2 := Aside0.mk (HS.out.grown hg (by omega) hgo)
              have HR2 := Aside0.mk (Kd.R_lower hr HB.out.size)
              have HB2 := Aside0.mk (HB.out.grown hg HB.out.size (fun k e => by cases e; exact Nat.le_refl _))
              obtain ⟨Atv, ctv, etv⟩ := Kd.R_slice HS2.out.tr
              obtain ⟨Amv, cmv, emv⟩ := Kd.R_slice hr
              subst etv
              subst emv
              have p0 : w''.cell? ⟨w.heap.size, 0, none⟩ = some (.int .i64 3) := cell_of_row w'' _ 0 _ _ _ ho
              have p1 : w''.cell? ⟨w.heap.size, 1, none⟩ = some (.int .i64 0) := cell_of_row w'' _ 1 _ _ _ ho
              have p2 : w''.cell? ⟨w.heap.size, 2, none⟩ = some (.slice Atv m'.told.length ctv) := cell_of_row w'' _ 2 _ _ _ ho
              have p3 : w''.cell? ⟨w.heap.size, 3, none⟩ = some (.slice Amv m'.mem.length cmv) := cell_of_row w'' _ 3 _ _ _ ho
              have p4 : w''.cell? ⟨w.heap.size, 4, none⟩ = some (.int .i64 m'.steps) := cell_of_row w'' _ 4 _ _ _ ho
              clear ho hr hg
              simp [Leaves, settle, results, Try.results11, go_sem, p0, p1, p2, p3, p4]
              exact ⟨_, _, ⟨rfl, rfl, rfl, rfl⟩, HS2.out.tr, HR2.out, HB2.out⟩

end Go.Proofs.Ytjmgfpfdkfelhaa.PRunDeep

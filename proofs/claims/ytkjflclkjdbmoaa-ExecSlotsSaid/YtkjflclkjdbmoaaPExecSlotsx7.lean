-- By a program of this session (wip/tools/mkprint.py), for this claim.
import Derived.Test.YtkjflclkjdbmoaaPExecSlotsx0
import Derived.Test.YtkjflclkjdbmoaaPExecSlotsx4
import Derived.Test.YtkjflclkjdbmoaaPExecSlotsx5
import Derived.Test.YtkjflclkjdbmoaaPExecSlotsx6
namespace Go.Proofs.Ytkjflclkjdbmoaa.PExecSlots
open Go.RowKit Go.Proofs.YtkjflclkjdbmoaaW.PrintWords Go.Proofs.YtkjflclkjdbmoaaW.PrintLast Go.Proofs.YtkjflclkjdbmoaaW.PrintMore
attribute [local go_sem] max2_int min2_int max_two min_two max_three min_three max_four min_four   -- for this text's walks alone
set_option linter.unusedVariables false
set_option linter.unusedSimpArgs false

/-! ### exec_Run: function 7 (by hand) -/
def exec_Run.Z : Array Value := (Value.slice none 0 0 :: (List.replicate 256 (Value.int .i64 0) ++ [.slice none 0 0, .int .i64 0, .int .i64 0])).toArray
theorem exec_Run.Z_size : exec_Run.Z.size = 260 := by
  unfold exec_Run.Z
  rw [List.size_toArray, List.length_cons, List.length_append, List.length_replicate]
  rfl
def exec_Run.M0 : Rn.M := ⟨List.replicate 256 0, [], 0⟩
theorem exec_Run.Z_set (A : Option Addr) (n c : Nat) (fuel : Int) : (exec_Run.Z.setIfInBounds 0 (.slice A n c)).setIfInBounds 258 (.int .i64 fuel) = Rn.arr A n c exec_Run.M0 (.slice none 0 0) fuel := by
  unfold exec_Run.Z Rn.arr
  rw [show ((Value.slice none 0 0 :: (List.replicate 256 (Value.int .i64 0) ++ [.slice none 0 0, .int .i64 0, .int .i64 0])).toArray.setIfInBounds 0 (.slice A n c)) = (Value.slice A n c :: (List.replicate 256 (Value.int .i64 0) ++ [.slice none 0 0, .int .i64 0, .int .i64 0])).toArray from by rw [List.setIfInBounds_toArray, List.set_cons_zero], List.setIfInBounds_toArray, List.set_cons_succ, List.set_append_right _ _ (by rw [List.length_replicate]; decide), List.length_replicate]
  have e : exec_Run.M0.mem.map (Value.int .i64) = List.replicate 256 (Value.int .i64 0) := List.map_replicate
  rw [e]
  rfl
theorem exec_Run.memC {W : World} {base gm : Nat} {A : Option Addr} {n c : Nat} {fuel : Int} {m : Rn.M} {tv : Value} (h : Ex.St W base gm A n c fuel m tv) : (Kd.int .i64).C W (some ⟨gm, 1, none⟩) 256 m.mem := by
  refine ⟨h.hm, by decide, fun _ => ⟨_, rfl, fun j p hj => ⟨[.int .i64 p], rfl, rfl, fun i u hu => ?_⟩⟩⟩
  have e : (Kd.int .i64).sz = 1 := rfl
  have hjl := (List.getElem?_eq_some_iff.1 hj).1
  rw [h.hm] at hjl
  cases i with
  | zero =>
    rw [e, Nat.mul_one, Nat.add_zero]
    have ea : (⟨gm, 1, none⟩ : Addr).add j = ⟨gm, 1 + j, none⟩ := by unfold Addr.add; split <;> simp_all
    rw [ea, h.atm j hjl, List.getD_eq_getElem?_getD, hj]
    exact hu
  | succ i => cases hu
theorem exec_Run.clone {W : World} {base gm : Nat} {A : Option Addr} {n c : Nat} {fuel : Int} {m : Rn.M} {tv : Value} (h : Ex.St W base gm A n c fuel m tv) : Calls Try.prog 20 #[.slice (some ⟨gm, 1, none⟩) 256 256] W fun e w' => ∃ v0_ : Value, e = .returned (v0_) ∧ Kd.R (Kd.int .i64) 3 w' W.heap.size (fun _ => True) v0_ m.mem ∧ Below W.heap.size W w' := by
  have hm := h.hm
  have hc := exec_Run.memC h
  have hcl : slices_Clone_int_int.f m.mem = some m.mem := by unfold slices_Clone_int_int.f; rw [if_pos (by omega)]
  have e := slices_Clone_int_int.calls (some ⟨gm, 1, none⟩) 256 m.mem m.mem W (by rw [hm]; exact hc) (by omega) hcl
  rw [hm] at e
  exact e
theorem exec_Run.word_calls (a : Int) (w : World) : Calls Try.prog 16 #[.int .i64 a] w fun e w' => e = .returned (.int .i64 (a % 65536)) ∧ ∃ m, w' = w.drewN m := by
  refine (run_Word.calls a (a % 65536) w (by unfold run_Word.f; rw [exec_machine_plain.word_bits])).mono ?_
  rintro e w' ⟨h1, h2⟩
  exact ⟨h1, h2.out⟩
def exec_Run.NQ (Q : Exit → Act → World → Prop) (e : Exit) (a : Act) (w : World) : Prop := match e with
  | .normal => Q .normal a w
  | _ => False
theorem exec_Run.wp_normal {P : Program} {c : Code} {Q : Exit → Act → World → Prop} {a : Act} {w : World} (h : c.wp P (exec_Run.NQ Q) a w) : c.wp P Q a w := wp_mono h (fun e a w q => by
  cases e <;> first | exact q | exact q.elim)
theorem exec_Run.neO : ∀ q, q ∈ 3 :: (Kd.int .i64).E → q ≠ 36 := by
  intro q hq
  simp [Kd.int, Kd.scalar] at hq
  omega
/-- The function that is handed in. -/
theorem exec_Run.run1 (q : Rn.Res) (pb nb vb gm base : Nat) (name : ByteArray) (vv : Value) (A : Option Addr) (n c : Nat) (fuel : Int) (m' : Rn.M) (tv : Value) (W : World) (hp : W.cell? ⟨pb, 0, none⟩ = some (.pointer (some ⟨gm, 0, none⟩))) (hn : W.cell? ⟨nb, 0, none⟩ = some (.string name)) (Av : Option Addr) (nv cv : Nat) (hv : W.cell? ⟨vb, 0, none⟩ = some (.slice Av nv cv))
    (hc : Calls Try.prog 19 #[.pointer (some ⟨gm, 0, none⟩), .string name, .slice Av nv cv, .int .i64 0] W fun e w' => e = Ex.ending q ∧ ∃ tv', Ex.St w' base gm A n c fuel m' tv' ∧ Rn.Fr base gm tv tv' W w') :
    Calls Try.prog 18 #[.pointer (some ⟨pb, 0, none⟩), .pointer (some ⟨nb, 0, none⟩), .pointer (some ⟨vb, 0, none⟩)] W fun e w' => e = Ex.ending q ∧ ∃ tv', Ex.St w' base gm A n c fuel m' tv' ∧ Rn.Fr base gm tv tv' W w' := by
  have HC := Aside0.mk hc
  clear hc
  cases q with
  | val v =>
    dsimp only [Ex.ending] at HC ⊢
    go_enter Try.func18, Try.ntmps18
    go_wp2_with (go_at_call 19; (with_reducible refine HC.out.mono ?_); rintro e w9 ⟨rfl, tv9, hs9, hf9⟩; have HS := Aside0.mk hs9; have HF := Aside0.mk hf9; clear hs9 hf9)
    go_ret
    exact ⟨rfl, _, HS.out, HF.out⟩
  | trap =>
    dsimp only [Ex.ending] at HC ⊢
    go_enter Try.func18, Try.ntmps18
    go_wp2_with (go_at_call 19; (with_reducible refine HC.out.mono ?_); rintro e w9 ⟨rfl, tv9, hs9, hf9⟩; have HS := Aside0.mk hs9; have HF := Aside0.mk hf9; clear hs9 hf9)
    exact ⟨rfl, rfl, _, HS.out, HF.out⟩
  | out =>
    dsimp only [Ex.ending] at HC ⊢
    go_enter Try.func18, Try.ntmps18
    go_wp2_with (go_at_call 19; (with_reducible refine HC.out.mono ?_); rintro e w9 ⟨rfl, tv9, hs9, hf9⟩; have HS := Aside0.mk hs9; have HF := Aside0.mk hf9; clear hs9 hf9)
    exact ⟨rfl, rfl, _, HS.out, HF.out⟩
/-- Ahead of the second loop. -/
structure exec_Run.L1 (w wq : World) (name : ByteArray) (A : Option Addr) (n c : Nat) (fuel : Int) (m : Rn.M) : Prop where
  st : Ex.St wq w.heap.size (w.heap.size + 1 + 1) A n c fuel m (.slice none 0 0)
  hn : wq.heap[w.heap.size]? = some (.cells #[.string name] 9 (0, 0))
  ho : wq.heap[w.heap.size + 1]? = some (.cells #[.int .i64 0, .int .i64 0, .slice none 0 0, .slice none 0 0, .int .i64 0] 36 (0, 0))
  hp : wq.heap[w.heap.size + 1 + 1 + 1]? = some (.cells #[.pointer (some ⟨w.heap.size + 1 + 1, 0, none⟩)] 51 (0, 0))
  hb : Below w.heap.size w wq
theorem exec_Run.L1.step {w wq : World} {name : ByteArray} {A : Option Addr} {n c : Nat} {fuel : Int} {mem : List Int} {k : Nat} (h : exec_Run.L1 w wq name A n c fuel ⟨Ex.filled mem k, [], 0⟩) (hk : k < 256) (hl : k < mem.length) (nq : Nat) : exec_Run.L1 w ((wq.drewN nq).setCell ⟨w.heap.size + 1 + 1, 1 + k, none⟩ (.int .i64 (mem.getD k 0 % 65536))) name A n c fuel ⟨Ex.filled mem (k + 1), [], 0⟩ := by
  have hs := (h.st.drewN nq).store k hk (mem.getD k 0 % 65536)
  simp only [Ex.filled_set mem k hk hl] at hs
  exact ⟨hs, (Below.heap_setCell _ _ _ w.heap.size (by show w.heap.size ≠ w.heap.size + 1 + 1; omega)).trans h.hn, (Below.heap_setCell _ _ _ (w.heap.size + 1) (by show w.heap.size + 1 ≠ w.heap.size + 1 + 1; omega)).trans h.ho, (Below.heap_setCell _ _ _ (w.heap.size + 1 + 1 + 1) (by show w.heap.size + 1 + 1 + 1 ≠ w.heap.size + 1 + 1; omega)).trans h.hp, (pw_below_drewN h.hb nq).setCell (p := ⟨w.heap.size + 1 + 1, 1 + k, none⟩) (by show w.heap.size ≤ w.heap.size + 1 + 1; omega) _⟩
def exec_Run.Post (w : World) (q : Rn.Res) (m' : Rn.M) (e : Ending) (w' : World) : Prop := ∃ tv mv, e = .returned (.agg #[.int .i64 (exec_ended.kind q).2, .int .i64 (exec_ended.kind q).1, tv, mv, .int .i64 m'.steps]) ∧ Kd.R (Kd.int .i64) 3 w' w.heap.size (fun _ => True) tv m'.told ∧ Kd.R (Kd.int .i64) 3 w' w.heap.size (fun _ => True) mv m'.mem ∧ Below w.heap.size w w'
set_option maxHeartbeats 16000000 in
set_option maxRecDepth 100000 in
theorem exec_Run.calls (mod : List Ex.Cd) (name : ByteArray) (args mem : List Int) (fuel : Int) (g : Nat) (q : Rn.Res) (m' : Rn.M) (A : Option Addr) (c : Nat) (Aa : Option Addr) (ca : Nat) (Am : Option Addr) (cm : Nat) (w : World)
    (hmod : Ex.kC.C w A mod.length mod) (hmc : mod.length ≤ c) (hargs : (Kd.int .i64).C w Aa args.length args) (hac : args.length ≤ ca) (hal : args.length ≤ 100000) (hmem : (Kd.int .i64).C w Am mem.length mem) (hmmc : mem.length ≤ cm) (hf : 0 < fuel ∧ fuel ≤ 8388608)
    (hgo : Ex.call mod fuel g name (Ex.word args) 0 ⟨Ex.filled mem (min mem.length 256), [], 0⟩ = some (q, m')) :
    Calls Try.prog 7 #[.slice A mod.length c, .string name, .slice Aa args.length ca, .slice Am mem.length cm, .int .i64 fuel] w (exec_Run.Post w q m') := by
  have HMOD := Aside0.mk hmod
  have HARGS := Aside0.mk hargs
  have HMEM := Aside0.mk hmem
  have HGO := Aside0.mk hgo
  clear hmod hargs hmem hgo
  have hz : ∀ w : World, (zeroValue 54).run Try.prog w = .ok (.agg exec_Run.Z) w := fun w => by kernel_rfl
  have hzs := exec_Run.Z_size
  have hz2 : ∀ v, (exec_Run.Z.setIfInBounds 0 v).size = 260 := fun v => by rw [Array.size_setIfInBounds]; exact hzs
  have hz3 : ∀ v u, ((exec_Run.Z.setIfInBounds 0 v).setIfInBounds 258 u).size = 260 := fun v u => by rw [Array.size_setIfInBounds]; exact hz2 v
  have hf1 : fuel ≤ 8388608 := hf.2
  have hf2 : 0 < fuel := hf.1
  have hmf : ∀ (fn : Fn) (first cap : Array Value) (w : World), (Instr.makeFunc fn first cap).run Try.prog w = .ok (.func fn first cap) w := fun _ _ _ _ => rfl
  by_cases hM : (mem.length : Int) ≤ 256
  · as_aux_lemma =>
    go_enter Try.func7, Try.ntmps7
    go_wp2_with (fail)
    have HL : Aside0 (exec_Run.L1 w ((((w.alloc (.cells #[.string name] 9)).alloc (.cells #[.int .i64 0, .int .i64 0, .slice none 0 0, .slice none 0 0, .int .i64 0] 36)).alloc (.cells ((exec_Run.Z.setIfInBounds 0 (.slice A mod.length c)).setIfInBounds 258 (.int .i64 fuel)) 54)).alloc (.cells #[.pointer (some ⟨w.heap.size + 1 + 1, 0, none⟩)] 51)) name A mod.length c fuel ⟨Ex.filled mem 0, [], 0⟩) := ⟨by
      have e := Hw.blk_al (Hw.blk_nw2 w (.cells #[.string name] 9) (.cells #[.int .i64 0, .int .i64 0, .slice none 0 0, .slice none 0 0, .int .i64 0] 36) (.cells ((exec_Run.Z.setIfInBounds 0 (.slice A mod.length c)).setIfInBounds 258 (.int .i64 fuel)) 54)) (.cells #[.pointer (some ⟨w.heap.size + 1 + 1, 0, none⟩)] 51)
      rw [exec_Run.Z_set] at e ⊢
      refine ⟨⟨e, (Ex.filled_len mem 0 (by decide)).resolve_right (by omega), by omega, Kd.R_nil _ _ _ _ _, by simp; omega, ⟨Int.le_refl _, by show (0 : Int) ≤ 8388608; decide⟩, ⟨Int.le_of_lt hf2, hf1⟩, Int.le_refl _⟩, Hw.blk_al (Hw.blk_al (Hw.blk_al (Hw.blk_nw w _) _) _) _, Hw.blk_al (Hw.blk_al (Hw.blk_nw1 w _ _) _) _, Hw.blk_nw3 w _ _ _ _, ?_⟩
      exact ((((Below.refl w.heap.size w).alloc (Nat.le_refl _) _).alloc (by simp) _).alloc (by simp; omega) _).alloc (by simp; omega) _⟩
    generalize ((((w.alloc (.cells #[.string name] 9)).alloc (.cells #[.int .i64 0, .int .i64 0, .slice none 0 0, .slice none 0 0, .int .i64 0] 36)).alloc (.cells ((exec_Run.Z.setIfInBounds 0 (.slice A mod.length c)).setIfInBounds 258 (.int .i64 fuel)) 54)).alloc (.cells #[.pointer (some ⟨w.heap.size + 1 + 1, 0, none⟩)] 51)) = W1 at HL ⊢
    clear hz hzs hz2 hz3
    go_loopg [31] mem.length (fun gg v31 wq => ∃ k : Nat, v31 = .int .i64 (k : Int) ∧ k ≤ mem.length ∧ mem.length - k ≤ gg ∧ Aside0 (exec_Run.L1 w wq name A mod.length c fuel ⟨Ex.filled mem k, [], 0⟩))
    case atStart => exact ⟨0, rfl, Nat.zero_le _, by omega, HL⟩
    case round =>
      clear HL
      obtain ⟨k, rfl, hk, hgg, HL⟩ := hrel
      by_cases hkl : k < mem.length
      · as_aux_lemma =>
        obtain ⟨gk, rfl⟩ : ∃ q, gk = q + 1 := by
          cases gk with
          | zero => omega
          | succ q => exact ⟨q, rfl⟩
        have hk256 : k < 256 := by omega
        obtain ⟨adm, rfl, a1⟩ := Kd.at_int (Kd.C_below HMEM.out HL.out.hb) (k : Int) (by omega) (by omega)
        rw [Int.toNat_natCast] at a1
        have HSTEP := Aside0.mk (fun nq => HL.out.step hk256 (by omega) nq)
        have e1 : rd mem (k : Int) = mem.getD k 0 := by unfold rd; rw [Int.toNat_natCast]
        rw [e1] at a1
        generalize mem.getD k 0 = u at a1 HSTEP
        clear e1
        have y0 : wr.cell? ⟨w.heap.size + 1 + 1 + 1, 0, none⟩ = some (.pointer (some ⟨w.heap.size + 1 + 1, 0, none⟩)) := cell_of_row wr _ 0 _ _ _ HL.out.hp
        have cmm := HL.out.st.atm k hk256
        have cmf := HL.out.st.fz (1 + k)
        have zk : (k : Int) < (mem.length : Nat) := by omega
        have zk2 : (k : Int) < 256 := by omega
        go_upto_region 5 with fail
        refine exec_Run.wp_normal ?_
        -- REGION 5
        refine start_ (n := 8) (S := fun w' => w'.cell? ⟨w.heap.size + 1 + 1 + 1, 0, none⟩ = some (.pointer (some ⟨w.heap.size + 1 + 1, 0, none⟩))) (ds := [7]) #[false, false, false, false, false, false, false, false] (by kernel_rfl) rfl rfl (y0) (fun hHeld => ?_)
        refine pure_ (i := 1) (N := some 37) (v := ?_) (a' := ?_) #[false, true, false, false, false, false, false, false] rfl rfl (by kernel_rfl) (fun _ _ _ h => h) (Or.inl ⟨by rfl, ?_⟩) ?_ ?_
        rotate_left
        · intro w'
          go_simp
          with_reducible rfl
        rotate_left
        · simp only [Act.put, List.setIfInBounds_toArray, List.set_cons_zero, List.set_cons_succ, i64_w, i32_w]
          rfl
        refine pure_ (i := 2) (N := some 38) (v := ?_) (a' := ?_) #[false, true, true, false, false, false, false, false] rfl rfl (by kernel_rfl) (fun _ _ _ h => h) (Or.inl ⟨by rfl, ?_⟩) ?_ ?_
        rotate_left
        · intro w'
          go_simp
          with_reducible rfl
        rotate_left
        · simp only [Act.put, List.setIfInBounds_toArray, List.set_cons_zero, List.set_cons_succ, i64_w, i32_w]
          rfl
        refine take_ (i := 0) (N := some 36) (v := ?_) (a' := ?_) #[true, true, true, false, false, false, false, false] rfl rfl (by kernel_rfl) (fun _ _ _ h => h) (Or.inl ⟨by rfl, ?_⟩) hHeld ?_ ?_
        rotate_left
        · intro w' s0
          go_simp
          with_reducible rfl
        rotate_left
        · simp only [Act.put, List.setIfInBounds_toArray, List.set_cons_zero, List.set_cons_succ, i64_w, i32_w]
          rfl
        refine pure_ (i := 4) (N := some 40) (v := ?_) (a' := ?_) #[true, true, true, false, true, false, false, false] rfl rfl (by kernel_rfl) (fun _ _ _ h => h) (Or.inl ⟨by rfl, ?_⟩) ?_ ?_
        rotate_left
        · intro w'
          go_simp
          with_reducible rfl
        rotate_left
        · simp only [Act.put, List.setIfInBounds_toArray, List.set_cons_zero, List.set_cons_succ, i64_w, i32_w]
          rfl
        refine pure_ (i := 5) (N := some 41) (v := ?_) (a' := ?_) #[true, true, true, false, true, true, false, false] rfl rfl (by kernel_rfl) (fun _ _ _ h => h) (Or.inl ⟨by rfl, ?_⟩) ?_ ?_
        rotate_left
        · intro w'
          go_simp
          with_reducible rfl
        rotate_left
        · simp only [Act.put, List.setIfInBounds_toArray, List.set_cons_zero, List.set_cons_succ, i64_w, i32_w]
          rfl
        refine one_ (i := 3) (N := some 39) #[true, true, true, true, true, true, false, false] rfl rfl (by kernel_rfl) (by decide) (fun K hK => ?_)
        refine goes_ Try.func16 (by kernel_rfl) rfl #[.int .i64 u] (by rfl) rfl rfl (by simp only [List.map_toArray, List.map_cons, List.map_nil]; rfl) ?_
        with_reducible refine (exec_Run.word_calls u _).mono ?_
        rintro e w3 ⟨rfl, nq, rfl⟩
        refine ⟨_, rfl, ?_⟩
        refine hK.out _ _ (y0) (fun hHeld => ?_)
        clear hK K
        refine norm_ (a' := ?_) ?_ ?_
        rotate_left
        · show Act.put _ (some 39) _ = _
          simp only [Act.put, List.setIfInBounds_toArray, List.set_cons_zero, List.set_cons_succ, i64_w, i32_w]
          rfl
        refine pure_ (i := 6) (N := some 42) (v := ?_) (a' := ?_) #[true, true, true, true, true, true, true, false] rfl rfl (by kernel_rfl) (fun _ _ _ h => h) (Or.inl ⟨by rfl, ?_⟩) ?_ ?_
        rotate_left
        · intro w'
          go_simp
          with_reducible rfl
        rotate_left
        · simp only [Act.put, List.setIfInBounds_toArray, List.set_cons_zero, List.set_cons_succ, i64_w, i32_w]
          rfl
        refine last_ (i := 7) (N := none) #[true, true, true, true, true, true, true, true] rfl rfl (by kernel_rfl) (by decide) (fun K hK => ?_)
        refine skip_ (w1 := ?_) (by rfl) rfl ?_ ?_
        rotate_left
        · go_simp
          rfl
        refine hK.out _ _ ?_
        clear hK K
        refine done_ (by kernel_rfl) ?_
        dsimp only [exec_Run.NQ]
        go_wp2_with (fail)
        go_roundg gk
        case measure => omega
        case rel => exact ⟨k + 1, by rw [Int.natCast_add]; rfl, by omega, by omega, ⟨HSTEP.out (1 + nq)⟩⟩
      · obtain rfl : k = mem.length := by omega
        clear HMEM hgg hk hkl
        have hmin : min mem.length 256 = mem.length := by omega
        rw [hmin] at HGO
        generalize (⟨Ex.filled mem mem.length, [], 0⟩ : Rn.M) = m1 at HGO HL
        go_upto_region 8 with fail
        have hvb : w.heap.size + 1 + 1 + 1 < wr.heap.size := (Array.getElem?_eq_some_iff.1 HL.out.hp).1
        have HX : Aside0 (Ex.Sx w (wr.alloc (.cells #[.slice none 0 0] 26)) w.heap.size (w.heap.size + 1) (w.heap.size + 1 + 1) (w.heap.size + 1 + 1 + 1) wr.heap.size name A mod.length c fuel m1 (.slice none 0 0) ((Ex.word args).take 0)) := ⟨⟨HL.out.st.alloc _, Hw.blk_al HL.out.hn _, Hw.blk_al HL.out.ho _, Hw.blk_al HL.out.hp _, Hw.blk_nw wr _, Kd.R_nil _ _ _ _ _, HL.out.hb.alloc HL.out.st.hb _, ⟨by omega, by omega, by omega, by omega, by omega, by simp⟩⟩⟩
        clear HL
        generalize wr.heap.size = vb at HX hvb ⊢
        generalize wr.alloc (.cells #[.slice none 0 0] 26) = W2 at HX ⊢
        go_wp2_with (fail)
        go_loopg [46] args.length (fun gg v46 wq => ∃ (k : Nat) (vv : Value), v46 = .int .i64 (k : Int) ∧ k ≤ args.length ∧ args.length - k ≤ gg ∧ Aside0 (Ex.Sx w wq w.heap.size (w.heap.size + 1) (w.heap.size + 1 + 1) (w.heap.size + 1 + 1 + 1) vb name A mod.length c fuel m1 vv ((Ex.word args).take k)))
        case atStart => exact ⟨0, _, rfl, Nat.zero_le _, by omega, HX⟩
        case round =>
          clear HX
          obtain ⟨k, vv, rfl, hk, hgg, HX⟩ := hrel
          have hwl : (Ex.word args).length = args.length := List.length_map _
          by_cases hkl : k < args.length
          · as_aux_lemma =>
            obtain ⟨gk, rfl⟩ : ∃ q, gk = q + 1 := by
              cases gk with
              | zero => omega
              | succ q => exact ⟨q, rfl⟩
            obtain ⟨ada, rfl, a1⟩ := Kd.at_int (Kd.C_below HARGS.out HX.out.hb) (k : Int) (by omega) (by omega)
            rw [Int.toNat_natCast] at a1
            have HTK : Aside0 ((Ex.word args).take (k + 1) = (Ex.word args).take k ++ [args.getD k 0 % 65536]) := ⟨by
              rw [List.take_succ_eq_append_getElem (by omega)]
              unfold Ex.word
              rw [List.getElem_map, List.getD_eq_getElem?_getD, List.getElem?_eq_getElem hkl]
              rfl⟩
            have e1 : rd args (k : Int) = args.getD k 0 := by unfold rd; rw [Int.toNat_natCast]
            rw [e1] at a1
            generalize args.getD k 0 = u at a1 HTK
            clear e1
            have hkk : ((Ex.word args).take k).length + 1 ≤ 100000000 := by rw [List.length_take]; omega
            have HKK := Aside0.mk hkk
            obtain ⟨Av, cv, evv⟩ := Kd.R_slice HX.out.rv
            subst evv
            generalize (Ex.word args).take k = xs at HX HTK HKK hkk ⊢
            clear hkk
            have y0 : wr.cell? ⟨vb, 0, none⟩ = some (.slice Av xs.length cv) := cell_of_row wr vb 0 _ _ _ HX.out.hv
            have zk : (k : Int) < (args.length : Nat) := by omega
            go_upto_region 11 with fail
            refine exec_Run.wp_normal ?_
            -- REGION 11
            refine start_ (n := 6) (S := fun w' => w'.cell? ⟨vb, 0, none⟩ = some (.slice Av xs.length cv)) (ds := [4, 5]) #[false, false, false, false, false, false] (by kernel_rfl) rfl rfl (y0) (fun hHeld => ?_)
            refine pure_ (i := 1) (N := some 51) (v := ?_) (a' := ?_) #[false, true, false, false, false, false] rfl rfl (by kernel_rfl) (fun _ _ _ h => h) (Or.inl ⟨by rfl, ?_⟩) ?_ ?_
            rotate_left
            · intro w'
              go_simp
              with_reducible rfl
            rotate_left
            · simp only [Act.put, List.setIfInBounds_toArray, List.set_cons_zero, List.set_cons_succ, i64_w, i32_w]
              rfl
            refine take_ (i := 0) (N := some 50) (v := ?_) (a' := ?_) #[true, true, false, false, false, false] rfl rfl (by kernel_rfl) (fun _ _ _ h => h) (Or.inl ⟨by rfl, ?_⟩) hHeld ?_ ?_
            rotate_left
            · intro w' s0
              go_simp
              with_reducible rfl
            rotate_left
            · simp only [Act.put, List.setIfInBounds_toArray, List.set_cons_zero, List.set_cons_succ, i64_w, i32_w]
              rfl
            refine one_ (i := 2) (N := some 52) #[true, true, true, false, false, false] rfl rfl (by kernel_rfl) (by decide) (fun K hK => ?_)
            refine goes_ Try.func16 (by kernel_rfl) rfl #[.int .i64 u] (by rfl) rfl rfl (by simp only [List.map_toArray, List.map_cons, List.map_nil]; rfl) ?_
            with_reducible refine (exec_Run.word_calls u _).mono ?_
            rintro e w3 ⟨rfl, hd⟩
            refine ⟨_, rfl, ?_⟩
            obtain ⟨nq, hd⟩ := hd
            have HX : Aside0 (Ex.Sx w w3 w.heap.size (w.heap.size + 1) (w.heap.size + 1 + 1) (w.heap.size + 1 + 1 + 1) vb name A mod.length c fuel m1 (.slice Av xs.length cv) xs) := ⟨by rw [hd]; exact Ex.Sx.drewN (wq := wr.drew) (HX.out.drewN 1) nq⟩
            clear hd
            refine hK.out _ _ ((cell_of_row w3 vb 0 _ _ _ HX.out.hv)) (fun hHeld => ?_)
            clear hK K
            refine norm_ (a' := ?_) ?_ ?_
            rotate_left
            · show Act.put _ (some 52) _ = _
              simp only [Act.put, List.setIfInBounds_toArray, List.set_cons_zero, List.set_cons_succ, i64_w, i32_w]
              rfl
            refine one_ (i := 3) (N := some 53) #[true, true, true, true, false, false] rfl rfl (by kernel_rfl) (by decide) (fun K hK => ?_)
            refine value_ (w1 := ?_) (v := ?_) (by rfl) rfl ?_ ?_
            rotate_left 2
            · go_simp
              constructor
              · rfl
              · rfl
            have HK := Aside0.mk (Hw.blk_nw w3 (.cells #[.int .i64 (u % 65536)] 3))
            have HX := Aside0.mk (HX.out.alloc (.cells #[.int .i64 (u % 65536)] 3))
            refine hK.out _ _ ((cell_of_row _ vb 0 _ _ _ HX.out.hv)) (fun hHeld => ?_)
            clear hK K
            refine norm_ (a' := ?_) ?_ ?_
            rotate_left
            · show Act.put _ (some 53) _ = _
              simp only [Act.put, List.setIfInBounds_toArray, List.set_cons_zero, List.set_cons_succ, i64_w, i32_w]
              rfl
            refine last_ (i := 4) (N := some 54) #[true, true, true, true, true, false] rfl rfl (by kernel_rfl) (by decide) (fun K hK => ?_)
            refine Ex.app_step (vb + 1) (by rfl) (.tmp 50) (.tmp 53) rfl (.slice Av xs.length cv) xs (u % 65536) w3.heap.size rfl rfl HK.out HX.out.rv (by have := HX.out.ne; omega) HKK.out ?_
            intro v1 w9 hr9 hg9 hat9
            obtain ⟨Az, cz, ez⟩ := Kd.R_slice hr9
            rw [List.length_append, List.length_singleton] at ez
            subst ez
            obtain ⟨hvb9, hx9⟩ := HX.out.push hr9 hg9
            have HX := Aside0.mk hx9
            have f1 : w9.frozen? ⟨vb, 0, none⟩ = false := by simp [World.frozen?, hvb9]
            have m9 : w9.cell? ⟨vb, 0, none⟩ = some (.slice Av xs.length cv) := cell_of_row w9 vb 0 _ _ _ hvb9
            clear hr9 hg9 hat9 hvb9 hx9
            refine hK.out _ _ ?_
            clear hK K
            refine norm_ (a' := ?_) ?_ ?_
            rotate_left
            · show Act.put _ (some 54) _ = _
              simp only [Act.put, List.setIfInBounds_toArray, List.set_cons_zero, List.set_cons_succ, i64_w, i32_w]
              rfl
            refine last_ (i := 5) (N := none) #[true, true, true, true, true, true] rfl rfl (by kernel_rfl) (by decide) (fun K hK => ?_)
            refine skip_ (w1 := ?_) (by rfl) rfl ?_ ?_
            rotate_left
            · go_simp
              rfl
            refine hK.out _ _ ?_
            clear hK K
            refine done_ (by kernel_rfl) ?_
            dsimp only [exec_Run.NQ]
            go_wp2_with (fail)
            go_roundg gk
            case measure => omega
            case rel => exact ⟨k + 1, _, by rw [Int.natCast_add]; rfl, by omega, by omega, ⟨by rw [HTK.out]; exact HX.out⟩⟩
          · obtain rfl : k = args.length := by omega
            rw [List.take_of_length_le (by omega)] at HX
            obtain ⟨Av, cv, evv, hvl, hvC⟩ := Kd.R_reads HX.out.rv
            subst evv
            have hgm : w.heap.size ≤ wr.heap.size := HX.out.hb.size
            have hne := HX.out.ne
            have y1 : wr.cell? ⟨w.heap.size + 1 + 1 + 1, 0, none⟩ = some (.pointer (some ⟨w.heap.size + 1 + 1, 0, none⟩)) := cell_of_row wr _ 0 _ _ _ HX.out.hp
            have y2 : wr.cell? ⟨w.heap.size, 0, none⟩ = some (.string name) := cell_of_row wr _ 0 _ _ _ HX.out.hn
            have y3 : wr.cell? ⟨vb, 0, none⟩ = some (.slice Av (Ex.word args).length cv) := cell_of_row wr _ 0 _ _ _ HX.out.hv
            have HE := Aside0.mk (exec_ended.calls 18 #[.pointer (some ⟨w.heap.size + 1 + 1 + 1, 0, none⟩), .pointer (some ⟨w.heap.size, 0, none⟩), .pointer (some ⟨vb, 0, none⟩)] (fun _ _ => by kernel_rfl) q wr w.heap.size (w.heap.size + 1 + 1) A mod.length c fuel m1 m' (.slice none 0 0) HX.out.st (fun W hb =>
              exec_Run.run1 q _ _ _ (w.heap.size + 1 + 1) w.heap.size name (.slice Av (Ex.word args).length cv) A mod.length c fuel m' (.slice none 0 0) W ((hb.cell (World.block_lt_of_cell? _ _ y1)).trans y1) ((hb.cell (World.block_lt_of_cell? _ _ y2)).trans y2) Av _ cv ((hb.cell (World.block_lt_of_cell? _ _ y3)).trans y3)
                (exec_machine_call.calls mod fuel g name (Ex.word args) 0 m1 q m' HGO.out w W (w.heap.size + 1 + 1) A c (.slice none 0 0) Av cv HMOD.out hmc (HX.out.hb.trans (hb.mono hgm)) (HX.out.st.below hb) (Kd.C_below hvC hb) hvl ⟨Int.le_refl _, by decide⟩)))
            have hon : ∀ k : Nat, some k ≠ (Value.slice none 0 0).ownBlock := fun k => by simp [Value.ownBlock]
            clear y1 y2 y3 hvC HGO HARGS HMOD hgg hk hkl
            go_upto_region 14 with (go_at_call 17; (with_reducible refine HE.out.mono ?_); rintro e w9 ⟨rfl, tv, hs9, hf9⟩; have HS := Aside0.mk hs9; have HO := Aside0.mk ((hf9.f (w.heap.size + 1) (by omega) (by omega) (hon _)).trans HX.out.ho); have HPT := Aside0.mk ((hf9.f (w.heap.size + 1 + 1 + 1) (by omega) (by omega) (hon _)).trans HX.out.hp); have HB := Aside0.mk (HX.out.hb.trans hf9.b); have HG9 := Aside0.mk hf9.g; clear hf9 hs9)
            have hgo : some (w.heap.size + 1) ≠ tv.ownBlock := fun e => by
              rcases HG9.out _ e with q | q
              · exact hon _ q
              · omega
            obtain ⟨At, ct, etv⟩ := Kd.R_slice HS.out.tr
            subst etv
            have y0 : w9.cell? ⟨w.heap.size + 1 + 1 + 1, 0, none⟩ = some (.pointer (some ⟨w.heap.size + 1 + 1, 0, none⟩)) := cell_of_row w9 _ 0 _ _ _ HPT.out
            have y1 := HS.out.at257
            have y2 := HS.out.at259
            clear HE HX HG9
            refine exec_Run.wp_normal ?_
            have HS := Aside0.mk HS.out.drew
            have HO := Aside0.mk (show w9.drew.heap[w.heap.size + 1]? = _ from HO.out)
            have HB := Aside0.mk HB.out.drew
            -- REGION 14
            refine start_ (n := 17) (S := fun w' => w'.cell? ⟨w.heap.size + 1 + 1 + 1, 0, none⟩ = some (.pointer (some ⟨w.heap.size + 1 + 1, 0, none⟩)) ∧ w'.cell? ⟨w.heap.size + 1 + 1, 257, none⟩ = some (.slice At m'.told.length ct) ∧ w'.cell? ⟨w.heap.size + 1 + 1, 259, none⟩ = some (.int .i64 m'.steps)) (ds := [16]) #[false, false, false, false, false, false, false, false, false, false, false, false, false, false, false, false, false] (by kernel_rfl) rfl rfl ⟨y0, y1, y2⟩ (fun hHeld => ?_)
            refine pure_ (i := 0) (N := some 61) (v := ?_) (a' := ?_) #[true, false, false, false, false, false, false, false, false, false, false, false, false, false, false, false, false] rfl rfl (by kernel_rfl) (fun _ _ _ h => h) (Or.inl ⟨by rfl, ?_⟩) ?_ ?_
            rotate_left
            · intro w'
              go_simp
              with_reducible rfl
            rotate_left
            · simp only [Act.put, List.setIfInBounds_toArray, List.set_cons_zero, List.set_cons_succ, i64_w, i32_w]
              rfl
            refine pure_ (i := 1) (N := some 62) (v := ?_) (a' := ?_) #[true, true, false, false, false, false, false, false, false, false, false, false, false, false, false, false, false] rfl rfl (by kernel_rfl) (fun _ _ _ h => h) (Or.inl ⟨by rfl, ?_⟩) ?_ ?_
            rotate_left
            · intro w'
              go_simp
              with_reducible rfl
            rotate_left
            · simp only [Act.put, List.setIfInBounds_toArray, List.set_cons_zero, List.set_cons_succ, i64_w, i32_w]
              rfl
            refine take_ (i := 2) (N := some 63) (v := ?_) (a' := ?_) #[true, true, true, false, false, false, false, false, false, false, false, false, false, false, false, false, false] rfl rfl (by kernel_rfl) (fun _ _ _ h => h) (Or.inl ⟨by rfl, ?_⟩) hHeld ?_ ?_
            rotate_left
            · rintro w' ⟨s0, s1, s2⟩
              go_simp
              with_reducible rfl
            rotate_left
            · simp only [Act.put, List.setIfInBounds_toArray, List.set_cons_zero, List.set_cons_succ, i64_w, i32_w]
              rfl
            refine pure_ (i := 3) (N := some 64) (v := ?_) (a' := ?_) #[true, true, true, true, false, false, false, false, false, false, false, false, false, false, false, false, false] rfl rfl (by kernel_rfl) (fun _ _ _ h => h) (Or.inl ⟨by rfl, ?_⟩) ?_ ?_
            rotate_left
            · intro w'
              go_simp
              with_reducible rfl
            rotate_left
            · simp only [Act.put, List.setIfInBounds_toArray, List.set_cons_zero, List.set_cons_succ, i64_w, i32_w]
              rfl
            refine pure_ (i := 4) (N := some 65) (v := ?_) (a' := ?_) #[true, true, true, true, true, false, false, false, false, false, false, false, false, false, false, false, false] rfl rfl (by kernel_rfl) (fun _ _ _ h => h) (Or.inl ⟨by rfl, ?_⟩) ?_ ?_
            rotate_left
            · intro w'
              go_simp
              with_reducible rfl
            rotate_left
            · simp only [Act.put, List.setIfInBounds_toArray, List.set_cons_zero, List.set_cons_succ, i64_w, i32_w]
              rfl
            refine take_ (i := 5) (N := some 66) (v := ?_) (a' := ?_) #[true, true, true, true, true, true, false, false, false, false, false, false, false, false, false, false, false] rfl rfl (by kernel_rfl) (fun _ _ _ h => h) (Or.inl ⟨by rfl, ?_⟩) hHeld ?_ ?_
            rotate_left
            · rintro w' ⟨s0, s1, s2⟩
              go_simp
              with_reducible rfl
            rotate_left
            · simp only [Act.put, List.setIfInBounds_toArray, List.set_cons_zero, List.set_cons_succ, i64_w, i32_w]
              rfl
            refine take_ (i := 6) (N := some 67) (v := ?_) (a' := ?_) #[true, true, true, true, true, true, true, false, false, false, false, false, false, false, false, false, false] rfl rfl (by kernel_rfl) (fun _ _ _ h => h) (Or.inl ⟨by rfl, ?_⟩) hHeld ?_ ?_
            rotate_left
            · rintro w' ⟨s0, s1, s2⟩
              go_simp
              with_reducible rfl
            rotate_left
            · simp only [Act.put, List.setIfInBounds_toArray, List.set_cons_zero, List.set_cons_succ, i64_w, i32_w]
              rfl
            refine pure_ (i := 7) (N := some 68) (v := ?_) (a' := ?_) #[true, true, true, true, true, true, true, true, false, false, false, false, false, false, false, false, false] rfl rfl (by kernel_rfl) (fun _ _ _ h => h) (Or.inl ⟨by rfl, ?_⟩) ?_ ?_
            rotate_left
            · intro w'
              go_simp
              with_reducible rfl
            rotate_left
            · simp only [Act.put, List.setIfInBounds_toArray, List.set_cons_zero, List.set_cons_succ, i64_w, i32_w]
              rfl
            refine pure_ (i := 8) (N := some 69) (v := ?_) (a' := ?_) #[true, true, true, true, true, true, true, true, true, false, false, false, false, false, false, false, false] rfl rfl (by kernel_rfl) (fun _ _ _ h => h) (Or.inl ⟨by rfl, ?_⟩) ?_ ?_
            rotate_left
            · intro w'
              go_simp
              with_reducible rfl
            rotate_left
            · simp only [Act.put, List.setIfInBounds_toArray, List.set_cons_zero, List.set_cons_succ, i64_w, i32_w]
              rfl
            refine pure_ (i := 9) (N := some 70) (v := ?_) (a' := ?_) #[true, true, true, true, true, true, true, true, true, true, false, false, false, false, false, false, false] rfl rfl (by kernel_rfl) (fun _ _ _ h => h) (Or.inl ⟨by rfl, ?_⟩) ?_ ?_
            rotate_left
            · intro w'
              go_simp
              with_reducible rfl
            rotate_left
            · simp only [Act.put, List.setIfInBounds_toArray, List.set_cons_zero, List.set_cons_succ, i64_w, i32_w]
              rfl
            refine take_ (i := 11) (N := some 72) (v := ?_) (a' := ?_) #[true, true, true, true, true, true, true, true, true, true, false, true, false, false, false, false, false] rfl rfl (by kernel_rfl) (fun _ _ _ h => h) (Or.inl ⟨by rfl, ?_⟩) hHeld ?_ ?_
            rotate_left
            · rintro w' ⟨s0, s1, s2⟩
              go_simp
              with_reducible rfl
            rotate_left
            · simp only [Act.put, List.setIfInBounds_toArray, List.set_cons_zero, List.set_cons_succ, i64_w, i32_w]
              rfl
            refine pure_ (i := 12) (N := some 73) (v := ?_) (a' := ?_) #[true, true, true, true, true, true, true, true, true, true, false, true, true, false, false, false, false] rfl rfl (by kernel_rfl) (fun _ _ _ h => h) (Or.inl ⟨by rfl, ?_⟩) ?_ ?_
            rotate_left
            · intro w'
              go_simp
              with_reducible rfl
            rotate_left
            · simp only [Act.put, List.setIfInBounds_toArray, List.set_cons_zero, List.set_cons_succ, i64_w, i32_w]
              rfl
            refine pure_ (i := 13) (N := some 74) (v := ?_) (a' := ?_) #[true, true, true, true, true, true, true, true, true, true, false, true, true, true, false, false, false] rfl rfl (by kernel_rfl) (fun _ _ _ h => h) (Or.inl ⟨by rfl, ?_⟩) ?_ ?_
            rotate_left
            · intro w'
              go_simp
              with_reducible rfl
            rotate_left
            · simp only [Act.put, List.setIfInBounds_toArray, List.set_cons_zero, List.set_cons_succ, i64_w, i32_w]
              rfl
            refine take_ (i := 14) (N := some 75) (v := ?_) (a' := ?_) #[true, true, true, true, true, true, true, true, true, true, false, true, true, true, true, false, false] rfl rfl (by kernel_rfl) (fun _ _ _ h => h) (Or.inl ⟨by rfl, ?_⟩) hHeld ?_ ?_
            rotate_left
            · rintro w' ⟨s0, s1, s2⟩
              go_simp
              with_reducible rfl
            rotate_left
            · simp only [Act.put, List.setIfInBounds_toArray, List.set_cons_zero, List.set_cons_succ, i64_w, i32_w]
              rfl
            refine one_ (i := 10) (N := some 71) #[true, true, true, true, true, true, true, true, true, true, true, true, true, true, true, false, false] rfl rfl (by kernel_rfl) (by decide) (fun K hK => ?_)
            refine goes_ Try.func20 (by kernel_rfl) rfl #[.slice (some ⟨w.heap.size + 1 + 1, 1, none⟩) 256 256] (by rfl) rfl rfl (by simp only [List.map_toArray, List.map_cons, List.map_nil]; rfl) ?_
            with_reducible refine (exec_Run.clone HS.out).mono ?_
            rintro e w3 ⟨mv, rfl, hr3, hb3⟩
            refine ⟨_, rfl, ?_⟩
            obtain ⟨Am2, cm2, emv⟩ := Kd.R_slice hr3
            subst emv
            have HMV := Aside0.mk (Kd.R_lower hr3 HB.out.size)
            have HB := Aside0.mk (HB.out.trans (hb3.mono HB.out.size))
            have HO := Aside0.mk ((hb3.block (w.heap.size + 1) (Array.getElem?_eq_some_iff.1 HO.out).1).trans HO.out)
            have HS := Aside0.mk (HS.out.below hb3)
            have y0 := (hb3.cell (World.block_lt_of_cell? _ _ y0)).trans y0
            have y1 := HS.out.at257
            have y2 := HS.out.at259
            clear hr3 hb3
            have o0 : w3.cell? ⟨w.heap.size + 1, 0, none⟩ = some (.int .i64 0) := cell_of_row w3 _ 0 _ _ _ HO.out
            have o1 : w3.cell? ⟨w.heap.size + 1, 1, none⟩ = some (.int .i64 0) := cell_of_row w3 _ 1 _ _ _ HO.out
            have o2 : w3.cell? ⟨w.heap.size + 1, 2, none⟩ = some (.slice none 0 0) := cell_of_row w3 _ 2 _ _ _ HO.out
            have o3 : w3.cell? ⟨w.heap.size + 1, 3, none⟩ = some (.slice none 0 0) := cell_of_row w3 _ 3 _ _ _ HO.out
            have o4 : w3.cell? ⟨w.heap.size + 1, 4, none⟩ = some (.int .i64 0) := cell_of_row w3 _ 4 _ _ _ HO.out
            have ofz : ∀ i, w3.frozen? ⟨w.heap.size + 1, i, none⟩ = false := fun i => by simp only [World.frozen?]; rw [HO.out]; rfl
            refine hK.out _ _ ⟨y0, y1, y2⟩ (fun hHeld => ?_)
            clear hK K
            refine norm_ (a' := ?_) ?_ ?_
            rotate_left
            · show Act.put _ (some 71) _ = _
              simp only [Act.put, List.setIfInBounds_toArray, List.set_cons_zero, List.set_cons_succ, i64_w, i32_w]
              rfl
            refine pure_ (i := 15) (N := some 76) (v := ?_) (a' := ?_) #[true, true, true, true, true, true, true, true, true, true, true, true, true, true, true, true, false] rfl rfl (by kernel_rfl) (fun _ _ _ h => h) (Or.inl ⟨by rfl, ?_⟩) ?_ ?_
            rotate_left
            · intro w'
              go_simp
              with_reducible rfl
            rotate_left
            · simp only [Act.put, List.setIfInBounds_toArray, List.set_cons_zero, List.set_cons_succ, i64_w, i32_w]
              rfl
            refine last_ (i := 16) (N := none) #[true, true, true, true, true, true, true, true, true, true, true, true, true, true, true, true, true] rfl rfl (by kernel_rfl) (by decide) (fun K hK => ?_)
            refine skip_ (w1 := ?_) (by rfl) rfl ?_ ?_
            rotate_left
            · go_simp
              rfl
            refine hK.out _ _ ?_
            clear hK K
            refine done_ (by kernel_rfl) ?_
            dsimp only [exec_Run.NQ]
            go_wp2_with (fail)
            have OB : Aside0 ((((((w3.setCell ⟨w.heap.size + 1, 0, none⟩ (.int .i64 (exec_ended.kind q).2)).setCell ⟨w.heap.size + 1, 1, none⟩ (.int .i64 (exec_ended.kind q).1)).setCell ⟨w.heap.size + 1, 2, none⟩ (.slice At m'.told.length ct)).setCell ⟨w.heap.size + 1, 3, none⟩ (.slice Am2 m'.mem.length cm2)).setCell ⟨w.heap.size + 1, 4, none⟩ (.int .i64 m'.steps)).heap[w.heap.size + 1]? = some (.cells #[.int .i64 (exec_ended.kind q).2, .int .i64 (exec_ended.kind q).1, .slice At m'.told.length ct, .slice Am2 m'.mem.length cm2, .int .i64 m'.steps] 36 (0, 0))) := ⟨blk_set (blk_set (blk_set (blk_set (blk_set HO.out 0 _) 1 _) 2 _) 3 _) 4 _⟩
            have HS := Aside0.mk (((((HS.out.nset (w.heap.size + 1) 0 (by omega) hgo (.int .i64 (exec_ended.kind q).2)).nset (w.heap.size + 1) 1 (by omega) hgo (.int .i64 (exec_ended.kind q).1)).nset (w.heap.size + 1) 2 (by omega) hgo (.slice At m'.told.length ct)).nset (w.heap.size + 1) 3 (by omega) hgo (.slice Am2 m'.mem.length cm2)).nset (w.heap.size + 1) 4 (by omega) hgo (.int .i64 m'.steps))
            have HMV := Aside0.mk (Kd.R_set (Kd.R_set (Kd.R_set (Kd.R_set (Kd.R_set HMV.out HO.out exec_Run.neO 0 (.int .i64 (exec_ended.kind q).2)) (blk_set HO.out 0 _) exec_Run.neO 1 (.int .i64 (exec_ended.kind q).1)) (blk_set (blk_set HO.out 0 _) 1 _) exec_Run.neO 2 (.slice At m'.told.length ct)) (blk_set (blk_set (blk_set HO.out 0 _) 1 _) 2 _) exec_Run.neO 3 (.slice Am2 m'.mem.length cm2)) (blk_set (blk_set (blk_set (blk_set HO.out 0 _) 1 _) 2 _) 3 _) exec_Run.neO 4 (.int .i64 m'.steps))
            have HB := Aside0.mk (((((HB.out.setCell (p := ⟨w.heap.size + 1, 0, none⟩) (Nat.le_succ _) (.int .i64 (exec_ended.kind q).2)).setCell (p := ⟨w.heap.size + 1, 1, none⟩) (Nat.le_succ _) (.int .i64 (exec_ended.kind q).1)).setCell (p := ⟨w.heap.size + 1, 2, none⟩) (Nat.le_succ _) (.slice At m'.told.length ct)).setCell (p := ⟨w.heap.size + 1, 3, none⟩) (Nat.le_succ _) (.slice Am2 m'.mem.length cm2)).setCell (p := ⟨w.heap.size + 1, 4, none⟩) (Nat.le_succ _) (.int .i64 m'.steps))
            clear o0 o1 o2 o3 o4 ofz y0 y1 y2 hHeld
            generalize (((((w3.setCell ⟨w.heap.size + 1, 0, none⟩ (.int .i64 (exec_ended.kind q).2)).setCell ⟨w.heap.size + 1, 1, none⟩ (.int .i64 (exec_ended.kind q).1)).setCell ⟨w.heap.size + 1, 2, none⟩ (.slice At m'.told.length ct)).setCell ⟨w.heap.size + 1, 3, none⟩ (.slice Am2 m'.mem.length cm2)).setCell ⟨w.heap.size + 1, 4, none⟩ (.int .i64 m'.steps)) = wf at OB HS HMV HB ⊢
            refine bodyPost_ret (results_cell_row rfl _ _ (w.heap.size + 1) 36 _ (0, 0) _ rfl OB.out Try.underlying36 rfl (by kernel_rfl)) rfl ⟨_, _, rfl, HS.out.tr, HMV.out, HB.out⟩
  · as_aux_lemma =>
    go_enter Try.func7, Try.ntmps7
    go_wp2_with (fail)
    have HL : Aside0 (exec_Run.L1 w ((((w.alloc (.cells #[.string name] 9)).alloc (.cells #[.int .i64 0, .int .i64 0, .slice none 0 0, .slice none 0 0, .int .i64 0] 36)).alloc (.cells ((exec_Run.Z.setIfInBounds 0 (.slice A mod.length c)).setIfInBounds 258 (.int .i64 fuel)) 54)).alloc (.cells #[.pointer (some ⟨w.heap.size + 1 + 1, 0, none⟩)] 51)) name A mod.length c fuel ⟨Ex.filled mem 0, [], 0⟩) := ⟨by
      have e := Hw.blk_al (Hw.blk_nw2 w (.cells #[.string name] 9) (.cells #[.int .i64 0, .int .i64 0, .slice none 0 0, .slice none 0 0, .int .i64 0] 36) (.cells ((exec_Run.Z.setIfInBounds 0 (.slice A mod.length c)).setIfInBounds 258 (.int .i64 fuel)) 54)) (.cells #[.pointer (some ⟨w.heap.size + 1 + 1, 0, none⟩)] 51)
      rw [exec_Run.Z_set] at e ⊢
      refine ⟨⟨e, (Ex.filled_len mem 0 (by decide)).resolve_right (by omega), by omega, Kd.R_nil _ _ _ _ _, by simp; omega, ⟨Int.le_refl _, by show (0 : Int) ≤ 8388608; decide⟩, ⟨Int.le_of_lt hf2, hf1⟩, Int.le_refl _⟩, Hw.blk_al (Hw.blk_al (Hw.blk_al (Hw.blk_nw w _) _) _) _, Hw.blk_al (Hw.blk_al (Hw.blk_nw1 w _ _) _) _, Hw.blk_nw3 w _ _ _ _, ?_⟩
      exact ((((Below.refl w.heap.size w).alloc (Nat.le_refl _) _).alloc (by simp) _).alloc (by simp; omega) _).alloc (by simp; omega) _⟩
    generalize ((((w.alloc (.cells #[.string name] 9)).alloc (.cells #[.int .i64 0, .int .i64 0, .slice none 0 0, .slice none 0 0, .int .i64 0] 36)).alloc (.cells ((exec_Run.Z.setIfInBounds 0 (.slice A mod.length c)).setIfInBounds 258 (.int .i64 fuel)) 54)).alloc (.cells #[.pointer (some ⟨w.heap.size + 1 + 1, 0, none⟩)] 51)) = W1 at HL ⊢
    clear hz hzs hz2 hz3
    go_loopg [31] 256 (fun gg v31 wq => ∃ k : Nat, v31 = .int .i64 (k : Int) ∧ k ≤ 256 ∧ 256 - k ≤ gg ∧ Aside0 (exec_Run.L1 w wq name A mod.length c fuel ⟨Ex.filled mem k, [], 0⟩))
    case atStart => exact ⟨0, rfl, Nat.zero_le _, by omega, HL⟩
    case round =>
      clear HL
      obtain ⟨k, rfl, hk, hgg, HL⟩ := hrel
      by_cases hkl : k < 256
      · as_aux_lemma =>
        obtain ⟨gk, rfl⟩ : ∃ q, gk = q + 1 := by
          cases gk with
          | zero => omega
          | succ q => exact ⟨q, rfl⟩
        have hk256 : k < 256 := by omega
        obtain ⟨adm, rfl, a1⟩ := Kd.at_int (Kd.C_below HMEM.out HL.out.hb) (k : Int) (by omega) (by omega)
        rw [Int.toNat_natCast] at a1
        have HSTEP := Aside0.mk (fun nq => HL.out.step hk256 (by omega) nq)
        have e1 : rd mem (k : Int) = mem.getD k 0 := by unfold rd; rw [Int.toNat_natCast]
        rw [e1] at a1
        generalize mem.getD k 0 = u at a1 HSTEP
        clear e1
        have y0 : wr.cell? ⟨w.heap.size + 1 + 1 + 1, 0, none⟩ = some (.pointer (some ⟨w.heap.size + 1 + 1, 0, none⟩)) := cell_of_row wr _ 0 _ _ _ HL.out.hp
        have cmm := HL.out.st.atm k hk256
        have cmf := HL.out.st.fz (1 + k)
        have zk : (k : Int) < 256 := by omega
        have zk2 : (k : Int) < 256 := by omega
        go_upto_region 5 with fail
        refine exec_Run.wp_normal ?_
        -- REGION 5
        refine start_ (n := 8) (S := fun w' => w'.cell? ⟨w.heap.size + 1 + 1 + 1, 0, none⟩ = some (.pointer (some ⟨w.heap.size + 1 + 1, 0, none⟩))) (ds := [7]) #[false, false, false, false, false, false, false, false] (by kernel_rfl) rfl rfl (y0) (fun hHeld => ?_)
        refine pure_ (i := 1) (N := some 37) (v := ?_) (a' := ?_) #[false, true, false, false, false, false, false, false] rfl rfl (by kernel_rfl) (fun _ _ _ h => h) (Or.inl ⟨by rfl, ?_⟩) ?_ ?_
        rotate_left
        · intro w'
          go_simp
          with_reducible rfl
        rotate_left
        · simp only [Act.put, List.setIfInBounds_toArray, List.set_cons_zero, List.set_cons_succ, i64_w, i32_w]
          rfl
        refine pure_ (i := 2) (N := some 38) (v := ?_) (a' := ?_) #[false, true, true, false, false, false, false, false] rfl rfl (by kernel_rfl) (fun _ _ _ h => h) (Or.inl ⟨by rfl, ?_⟩) ?_ ?_
        rotate_left
        · intro w'
          go_simp
          with_reducible rfl
        rotate_left
        · simp only [Act.put, List.setIfInBounds_toArray, List.set_cons_zero, List.set_cons_succ, i64_w, i32_w]
          rfl
        refine take_ (i := 0) (N := some 36) (v := ?_) (a' := ?_) #[true, true, true, false, false, false, false, false] rfl rfl (by kernel_rfl) (fun _ _ _ h => h) (Or.inl ⟨by rfl, ?_⟩) hHeld ?_ ?_
        rotate_left
        · intro w' s0
          go_simp
          with_reducible rfl
        rotate_left
        · simp only [Act.put, List.setIfInBounds_toArray, List.set_cons_zero, List.set_cons_succ, i64_w, i32_w]
          rfl
        refine pure_ (i := 4) (N := some 40) (v := ?_) (a' := ?_) #[true, true, true, false, true, false, false, false] rfl rfl (by kernel_rfl) (fun _ _ _ h => h) (Or.inl ⟨by rfl, ?_⟩) ?_ ?_
        rotate_left
        · intro w'
          go_simp
          with_reducible rfl
        rotate_left
        · simp only [Act.put, List.setIfInBounds_toArray, List.set_cons_zero, List.set_cons_succ, i64_w, i32_w]
          rfl
        refine pure_ (i := 5) (N := some 41) (v := ?_) (a' := ?_) #[true, true, true, false, true, true, false, false] rfl rfl (by kernel_rfl) (fun _ _ _ h => h) (Or.inl ⟨by rfl, ?_⟩) ?_ ?_
        rotate_left
        · intro w'
          go_simp
          with_reducible rfl
        rotate_left
        · simp only [Act.put, List.setIfInBounds_toArray, List.set_cons_zero, List.set_cons_succ, i64_w, i32_w]
          rfl
        refine one_ (i := 3) (N := some 39) #[true, true, true, true, true, true, false, false] rfl rfl (by kernel_rfl) (by decide) (fun K hK => ?_)
        refine goes_ Try.func16 (by kernel_rfl) rfl #[.int .i64 u] (by rfl) rfl rfl (by simp only [List.map_toArray, List.map_cons, List.map_nil]; rfl) ?_
        with_reducible refine (exec_Run.word_calls u _).mono ?_
        rintro e w3 ⟨rfl, nq, rfl⟩
        refine ⟨_, rfl, ?_⟩
        refine hK.out _ _ (y0) (fun hHeld => ?_)
        clear hK K
        refine norm_ (a' := ?_) ?_ ?_
        rotate_left
        · show Act.put _ (some 39) _ = _
          simp only [Act.put, List.setIfInBounds_toArray, List.set_cons_zero, List.set_cons_succ, i64_w, i32_w]
          rfl
        refine pure_ (i := 6) (N := some 42) (v := ?_) (a' := ?_) #[true, true, true, true, true, true, true, false] rfl rfl (by kernel_rfl) (fun _ _ _ h => h) (Or.inl ⟨by rfl, ?_⟩) ?_ ?_
        rotate_left
        · intro w'
          go_simp
          with_reducible rfl
        rotate_left
        · simp only [Act.put, List.setIfInBounds_toArray, List.set_cons_zero, List.set_cons_succ, i64_w, i32_w]
          rfl
        refine last_ (i := 7) (N := none) #[true, true, true, true, true, true, true, true] rfl rfl (by kernel_rfl) (by decide) (fun K hK => ?_)
        refine skip_ (w1 := ?_) (by rfl) rfl ?_ ?_
        rotate_left
        · go_simp
          rfl
        refine hK.out _ _ ?_
        clear hK K
        refine done_ (by kernel_rfl) ?_
        dsimp only [exec_Run.NQ]
        go_wp2_with (fail)
        go_roundg gk
        case measure => omega
        case rel => exact ⟨k + 1, by rw [Int.natCast_add]; rfl, by omega, by omega, ⟨HSTEP.out (1 + nq)⟩⟩
      · obtain rfl : k = 256 := by omega
        clear HMEM hgg hk hkl
        have hmin : min mem.length 256 = 256 := by omega
        rw [hmin] at HGO
        generalize (⟨Ex.filled mem 256, [], 0⟩ : Rn.M) = m1 at HGO HL
        go_upto_region 8 with fail
        have hvb : w.heap.size + 1 + 1 + 1 < wr.heap.size := (Array.getElem?_eq_some_iff.1 HL.out.hp).1
        have HX : Aside0 (Ex.Sx w (wr.alloc (.cells #[.slice none 0 0] 26)) w.heap.size (w.heap.size + 1) (w.heap.size + 1 + 1) (w.heap.size + 1 + 1 + 1) wr.heap.size name A mod.length c fuel m1 (.slice none 0 0) ((Ex.word args).take 0)) := ⟨⟨HL.out.st.alloc _, Hw.blk_al HL.out.hn _, Hw.blk_al HL.out.ho _, Hw.blk_al HL.out.hp _, Hw.blk_nw wr _, Kd.R_nil _ _ _ _ _, HL.out.hb.alloc HL.out.st.hb _, ⟨by omega, by omega, by omega, by omega, by omega, by simp⟩⟩⟩
        clear HL
        generalize wr.heap.size = vb at HX hvb ⊢
        generalize wr.alloc (.cells #[.slice none 0 0] 26) = W2 at HX ⊢
        go_wp2_with (fail)
        go_loopg [46] args.length (fun gg v46 wq => ∃ (k : Nat) (vv : Value), v46 = .int .i64 (k : Int) ∧ k ≤ args.length ∧ args.length - k ≤ gg ∧ Aside0 (Ex.Sx w wq w.heap.size (w.heap.size + 1) (w.heap.size + 1 + 1) (w.heap.size + 1 + 1 + 1) vb name A mod.length c fuel m1 vv ((Ex.word args).take k)))
        case atStart => exact ⟨0, _, rfl, Nat.zero_le _, by omega, HX⟩
        case round =>
          clear HX
          obtain ⟨k, vv, rfl, hk, hgg, HX⟩ := hrel
          have hwl : (Ex.word args).length = args.length := List.length_map _
          by_cases hkl : k < args.length
          · as_aux_lemma =>
            obtain ⟨gk, rfl⟩ : ∃ q, gk = q + 1 := by
              cases gk with
              | zero => omega
              | succ q => exact ⟨q, rfl⟩
            obtain ⟨ada, rfl, a1⟩ := Kd.at_int (Kd.C_below HARGS.out HX.out.hb) (k : Int) (by omega) (by omega)
            rw [Int.toNat_natCast] at a1
            have HTK : Aside0 ((Ex.word args).take (k + 1) = (Ex.word args).take k ++ [args.getD k 0 % 65536]) := ⟨by
              rw [List.take_succ_eq_append_getElem (by omega)]
              unfold Ex.word
              rw [List.getElem_map, List.getD_eq_getElem?_getD, List.getElem?_eq_getElem hkl]
              rfl⟩
            have e1 : rd args (k : Int) = args.getD k 0 := by unfold rd; rw [Int.toNat_natCast]
            rw [e1] at a1
            generalize args.getD k 0 = u at a1 HTK
            clear e1
            have hkk : ((Ex.word args).take k).length + 1 ≤ 100000000 := by rw [List.length_take]; omega
            have HKK := Aside0.mk hkk
            obtain ⟨Av, cv, evv⟩ := Kd.R_slice HX.out.rv
            subst evv
            generalize (Ex.word args).take k = xs at HX HTK HKK hkk ⊢
            clear hkk
            have y0 : wr.cell? ⟨vb, 0, none⟩ = some (.slice Av xs.length cv) := cell_of_row wr vb 0 _ _ _ HX.out.hv
            have zk : (k : Int) < (args.length : Nat) := by omega
            go_upto_region 11 with fail
            refine exec_Run.wp_normal ?_
            -- REGION 11
            refine start_ (n := 6) (S := fun w' => w'.cell? ⟨vb, 0, none⟩ = some (.slice Av xs.length cv)) (ds := [4, 5]) #[false, false, false, false, false, false] (by kernel_rfl) rfl rfl (y0) (fun hHeld => ?_)
            refine pure_ (i := 1) (N := some 51) (v := ?_) (a' := ?_) #[false, true, false, false, false, false] rfl rfl (by kernel_rfl) (fun _ _ _ h => h) (Or.inl ⟨by rfl, ?_⟩) ?_ ?_
            rotate_left
            · intro w'
              go_simp
              with_reducible rfl
            rotate_left
            · simp only [Act.put, List.setIfInBounds_toArray, List.set_cons_zero, List.set_cons_succ, i64_w, i32_w]
              rfl
            refine take_ (i := 0) (N := some 50) (v := ?_) (a' := ?_) #[true, true, false, false, false, false] rfl rfl (by kernel_rfl) (fun _ _ _ h => h) (Or.inl ⟨by rfl, ?_⟩) hHeld ?_ ?_
            rotate_left
            · intro w' s0
              go_simp
              with_reducible rfl
            rotate_left
            · simp only [Act.put, List.setIfInBounds_toArray, List.set_cons_zero, List.set_cons_succ, i64_w, i32_w]
              rfl
            refine one_ (i := 2) (N := some 52) #[true, true, true, false, false, false] rfl rfl (by kernel_rfl) (by decide) (fun K hK => ?_)
            refine goes_ Try.func16 (by kernel_rfl) rfl #[.int .i64 u] (by rfl) rfl rfl (by simp only [List.map_toArray, List.map_cons, List.map_nil]; rfl) ?_
            with_reducible refine (exec_Run.word_calls u _).mono ?_
            rintro e w3 ⟨rfl, hd⟩
            refine ⟨_, rfl, ?_⟩
            obtain ⟨nq, hd⟩ := hd
            have HX : Aside0 (Ex.Sx w w3 w.heap.size (w.heap.size + 1) (w.heap.size + 1 + 1) (w.heap.size + 1 + 1 + 1) vb name A mod.length c fuel m1 (.slice Av xs.length cv) xs) := ⟨by rw [hd]; exact Ex.Sx.drewN (wq := wr.drew) (HX.out.drewN 1) nq⟩
            clear hd
            refine hK.out _ _ ((cell_of_row w3 vb 0 _ _ _ HX.out.hv)) (fun hHeld => ?_)
            clear hK K
            refine norm_ (a' := ?_) ?_ ?_
            rotate_left
            · show Act.put _ (some 52) _ = _
              simp only [Act.put, List.setIfInBounds_toArray, List.set_cons_zero, List.set_cons_succ, i64_w, i32_w]
              rfl
            refine one_ (i := 3) (N := some 53) #[true, true, true, true, false, false] rfl rfl (by kernel_rfl) (by decide) (fun K hK => ?_)
            refine value_ (w1 := ?_) (v := ?_) (by rfl) rfl ?_ ?_
            rotate_left 2
            · go_simp
              constructor
              · rfl
              · rfl
            have HK := Aside0.mk (Hw.blk_nw w3 (.cells #[.int .i64 (u % 65536)] 3))
            have HX := Aside0.mk (HX.out.alloc (.cells #[.int .i64 (u % 65536)] 3))
            refine hK.out _ _ ((cell_of_row _ vb 0 _ _ _ HX.out.hv)) (fun hHeld => ?_)
            clear hK K
            refine norm_ (a' := ?_) ?_ ?_
            rotate_left
            · show Act.put _ (some 53) _ = _
              simp only [Act.put, List.setIfInBounds_toArray, List.set_cons_zero, List.set_cons_succ, i64_w, i32_w]
              rfl
            refine last_ (i := 4) (N := some 54) #[true, true, true, true, true, false] rfl rfl (by kernel_rfl) (by decide) (fun K hK => ?_)
            refine Ex.app_step (vb + 1) (by rfl) (.tmp 50) (.tmp 53) rfl (.slice Av xs.length cv) xs (u % 65536) w3.heap.size rfl rfl HK.out HX.out.rv (by have := HX.out.ne; omega) HKK.out ?_
            intro v1 w9 hr9 hg9 hat9
            obtain ⟨Az, cz, ez⟩ := Kd.R_slice hr9
            rw [List.length_append, List.length_singleton] at ez
            subst ez
            obtain ⟨hvb9, hx9⟩ := HX.out.push hr9 hg9
            have HX := Aside0.mk hx9
            have f1 : w9.frozen? ⟨vb, 0, none⟩ = false := by simp [World.frozen?, hvb9]
            have m9 : w9.cell? ⟨vb, 0, none⟩ = some (.slice Av xs.length cv) := cell_of_row w9 vb 0 _ _ _ hvb9
            clear hr9 hg9 hat9 hvb9 hx9
            refine hK.out _ _ ?_
            clear hK K
            refine norm_ (a' := ?_) ?_ ?_
            rotate_left
            · show Act.put _ (some 54) _ = _
              simp only [Act.put, List.setIfInBounds_toArray, List.set_cons_zero, List.set_cons_succ, i64_w, i32_w]
              rfl
            refine last_ (i := 5) (N := none) #[true, true, true, true, true, true] rfl rfl (by kernel_rfl) (by decide) (fun K hK => ?_)
            refine skip_ (w1 := ?_) (by rfl) rfl ?_ ?_
            rotate_left
            · go_simp
              rfl
            refine hK.out _ _ ?_
            clear hK K
            refine done_ (by kernel_rfl) ?_
            dsimp only [exec_Run.NQ]
            go_wp2_with (fail)
            go_roundg gk
            case measure => omega
            case rel => exact ⟨k + 1, _, by rw [Int.natCast_add]; rfl, by omega, by omega, ⟨by rw [HTK.out]; exact HX.out⟩⟩
          · obtain rfl : k = args.length := by omega
            rw [List.take_of_length_le (by omega)] at HX
            obtain ⟨Av, cv, evv, hvl, hvC⟩ := Kd.R_reads HX.out.rv
            subst evv
            have hgm : w.heap.size ≤ wr.heap.size := HX.out.hb.size
            have hne := HX.out.ne
            have y1 : wr.cell? ⟨w.heap.size + 1 + 1 + 1, 0, none⟩ = some (.pointer (some ⟨w.heap.size + 1 + 1, 0, none⟩)) := cell_of_row wr _ 0 _ _ _ HX.out.hp
            have y2 : wr.cell? ⟨w.heap.size, 0, none⟩ = some (.string name) := cell_of_row wr _ 0 _ _ _ HX.out.hn
            have y3 : wr.cell? ⟨vb, 0, none⟩ = some (.slice Av (Ex.word args).length cv) := cell_of_row wr _ 0 _ _ _ HX.out.hv
            have HE := Aside0.mk (exec_ended.calls 18 #[.pointer (some ⟨w.heap.size + 1 + 1 + 1, 0, none⟩), .pointer (some ⟨w.heap.size, 0, none⟩), .pointer (some ⟨vb, 0, none⟩)] (fun _ _ => by kernel_rfl) q wr w.heap.size (w.heap.size + 1 + 1) A mod.length c fuel m1 m' (.slice none 0 0) HX.out.st (fun W hb =>
              exec_Run.run1 q _ _ _ (w.heap.size + 1 + 1) w.heap.size name (.slice Av (Ex.word args).length cv) A mod.length c fuel m' (.slice none 0 0) W ((hb.cell (World.block_lt_of_cell? _ _ y1)).trans y1) ((hb.cell (World.block_lt_of_cell? _ _ y2)).trans y2) Av _ cv ((hb.cell (World.block_lt_of_cell? _ _ y3)).trans y3)
                (exec_machine_call.calls mod fuel g name (Ex.word args) 0 m1 q m' HGO.out w W (w.heap.size + 1 + 1) A c (.slice none 0 0) Av cv HMOD.out hmc (HX.out.hb.trans (hb.mono hgm)) (HX.out.st.below hb) (Kd.C_below hvC hb) hvl ⟨Int.le_refl _, by decide⟩)))
            have hon : ∀ k : Nat, some k ≠ (Value.slice none 0 0).ownBlock := fun k => by simp [Value.ownBlock]
            clear y1 y2 y3 hvC HGO HARGS HMOD hgg hk hkl
            go_upto_region 14 with (go_at_call 17; (with_reducible refine HE.out.mono ?_); rintro e w9 ⟨rfl, tv, hs9, hf9⟩; have HS := Aside0.mk hs9; have HO := Aside0.mk ((hf9.f (w.heap.size + 1) (by omega) (by omega) (hon _)).trans HX.out.ho); have HPT := Aside0.mk ((hf9.f (w.heap.size + 1 + 1 + 1) (by omega) (by omega) (hon _)).trans HX.out.hp); have HB := Aside0.mk (HX.out.hb.trans hf9.b); have HG9 := Aside0.mk hf9.g; clear hf9 hs9)
            have hgo : some (w.heap.size + 1) ≠ tv.ownBlock := fun e => by
              rcases HG9.out _ e with q | q
              · exact hon _ q
              · omega
            obtain ⟨At, ct, etv⟩ := Kd.R_slice HS.out.tr
            subst etv
            have y0 : w9.cell? ⟨w.heap.size + 1 + 1 + 1, 0, none⟩ = some (.pointer (some ⟨w.heap.size + 1 + 1, 0, none⟩)) := cell_of_row w9 _ 0 _ _ _ HPT.out
            have y1 := HS.out.at257
            have y2 := HS.out.at259
            clear HE HX HG9
            refine exec_Run.wp_normal ?_
            have HS := Aside0.mk HS.out.drew
            have HO := Aside0.mk (show w9.drew.heap[w.heap.size + 1]? = _ from HO.out)
            have HB := Aside0.mk HB.out.drew
            -- REGION 14
            refine start_ (n := 17) (S := fun w' => w'.cell? ⟨w.heap.size + 1 + 1 + 1, 0, none⟩ = some (.pointer (some ⟨w.heap.size + 1 + 1, 0, none⟩)) ∧ w'.cell? ⟨w.heap.size + 1 + 1, 257, none⟩ = some (.slice At m'.told.length ct) ∧ w'.cell? ⟨w.heap.size + 1 + 1, 259, none⟩ = some (.int .i64 m'.steps)) (ds := [16]) #[false, false, false, false, false, false, false, false, false, false, false, false, false, false, false, false, false] (by kernel_rfl) rfl rfl ⟨y0, y1, y2⟩ (fun hHeld => ?_)
            refine pure_ (i := 0) (N := some 61) (v := ?_) (a' := ?_) #[true, false, false, false, false, false, false, false, false, false, false, false, false, false, false, false, false] rfl rfl (by kernel_rfl) (fun _ _ _ h => h) (Or.inl ⟨by rfl, ?_⟩) ?_ ?_
            rotate_left
            · intro w'
              go_simp
              with_reducible rfl
            rotate_left
            · simp only [Act.put, List.setIfInBounds_toArray, List.set_cons_zero, List.set_cons_succ, i64_w, i32_w]
              rfl
            refine pure_ (i := 1) (N := some 62) (v := ?_) (a' := ?_) #[true, true, false, false, false, false, false, false, false, false, false, false, false, false, false, false, false] rfl rfl (by kernel_rfl) (fun _ _ _ h => h) (Or.inl ⟨by rfl, ?_⟩) ?_ ?_
            rotate_left
            · intro w'
              go_simp
              with_reducible rfl
            rotate_left
            · simp only [Act.put, List.setIfInBounds_toArray, List.set_cons_zero, List.set_cons_succ, i64_w, i32_w]
              rfl
            refine take_ (i := 2) (N := some 63) (v := ?_) (a' := ?_) #[true, true, true, false, false, false, false, false, false, false, false, false, false, false, false, false, false] rfl rfl (by kernel_rfl) (fun _ _ _ h => h) (Or.inl ⟨by rfl, ?_⟩) hHeld ?_ ?_
            rotate_left
            · rintro w' ⟨s0, s1, s2⟩
              go_simp
              with_reducible rfl
            rotate_left
            · simp only [Act.put, List.setIfInBounds_toArray, List.set_cons_zero, List.set_cons_succ, i64_w, i32_w]
              rfl
            refine pure_ (i := 3) (N := some 64) (v := ?_) (a' := ?_) #[true, true, true, true, false, false, false, false, false, false, false, false, false, false, false, false, false] rfl rfl (by kernel_rfl) (fun _ _ _ h => h) (Or.inl ⟨by rfl, ?_⟩) ?_ ?_
            rotate_left
            · intro w'
              go_simp
              with_reducible rfl
            rotate_left
            · simp only [Act.put, List.setIfInBounds_toArray, List.set_cons_zero, List.set_cons_succ, i64_w, i32_w]
              rfl
            refine pure_ (i := 4) (N := some 65) (v := ?_) (a' := ?_) #[true, true, true, true, true, false, false, false, false, false, false, false, false, false, false, false, false] rfl rfl (by kernel_rfl) (fun _ _ _ h => h) (Or.inl ⟨by rfl, ?_⟩) ?_ ?_
            rotate_left
            · intro w'
              go_simp
              with_reducible rfl
            rotate_left
            · simp only [Act.put, List.setIfInBounds_toArray, List.set_cons_zero, List.set_cons_succ, i64_w, i32_w]
              rfl
            refine take_ (i := 5) (N := some 66) (v := ?_) (a' := ?_) #[true, true, true, true, true, true, false, false, false, false, false, false, false, false, false, false, false] rfl rfl (by kernel_rfl) (fun _ _ _ h => h) (Or.inl ⟨by rfl, ?_⟩) hHeld ?_ ?_
            rotate_left
            · rintro w' ⟨s0, s1, s2⟩
              go_simp
              with_reducible rfl
            rotate_left
            · simp only [Act.put, List.setIfInBounds_toArray, List.set_cons_zero, List.set_cons_succ, i64_w, i32_w]
              rfl
            refine take_ (i := 6) (N := some 67) (v := ?_) (a' := ?_) #[true, true, true, true, true, true, true, false, false, false, false, false, false, false, false, false, false] rfl rfl (by kernel_rfl) (fun _ _ _ h => h) (Or.inl ⟨by rfl, ?_⟩) hHeld ?_ ?_
            rotate_left
            · rintro w' ⟨s0, s1, s2⟩
              go_simp
              with_reducible rfl
            rotate_left
            · simp only [Act.put, List.setIfInBounds_toArray, List.set_cons_zero, List.set_cons_succ, i64_w, i32_w]
              rfl
            refine pure_ (i := 7) (N := some 68) (v := ?_) (a' := ?_) #[true, true, true, true, true, true, true, true, false, false, false, false, false, false, false, false, false] rfl rfl (by kernel_rfl) (fun _ _ _ h => h) (Or.inl ⟨by rfl, ?_⟩) ?_ ?_
            rotate_left
            · intro w'
              go_simp
              with_reducible rfl
            rotate_left
            · simp only [Act.put, List.setIfInBounds_toArray, List.set_cons_zero, List.set_cons_succ, i64_w, i32_w]
              rfl
            refine pure_ (i := 8) (N := some 69) (v := ?_) (a' := ?_) #[true, true, true, true, true, true, true, true, true, false, false, false, false, false, false, false, false] rfl rfl (by kernel_rfl) (fun _ _ _ h => h) (Or.inl ⟨by rfl, ?_⟩) ?_ ?_
            rotate_left
            · intro w'
              go_simp
              with_reducible rfl
            rotate_left
            · simp only [Act.put, List.setIfInBounds_toArray, List.set_cons_zero, List.set_cons_succ, i64_w, i32_w]
              rfl
            refine pure_ (i := 9) (N := some 70) (v := ?_) (a' := ?_) #[true, true, true, true, true, true, true, true, true, true, false, false, false, false, false, false, false] rfl rfl (by kernel_rfl) (fun _ _ _ h => h) (Or.inl ⟨by rfl, ?_⟩) ?_ ?_
            rotate_left
            · intro w'
              go_simp
              with_reducible rfl
            rotate_left
            · simp only [Act.put, List.setIfInBounds_toArray, List.set_cons_zero, List.set_cons_succ, i64_w, i32_w]
              rfl
            refine take_ (i := 11) (N := some 72) (v := ?_) (a' := ?_) #[true, true, true, true, true, true, true, true, true, true, false, true, false, false, false, false, false] rfl rfl (by kernel_rfl) (fun _ _ _ h => h) (Or.inl ⟨by rfl, ?_⟩) hHeld ?_ ?_
            rotate_left
            · rintro w' ⟨s0, s1, s2⟩
              go_simp
              with_reducible rfl
            rotate_left
            · simp only [Act.put, List.setIfInBounds_toArray, List.set_cons_zero, List.set_cons_succ, i64_w, i32_w]
              rfl
            refine pure_ (i := 12) (N := some 73) (v := ?_) (a' := ?_) #[true, true, true, true, true, true, true, true, true, true, false, true, true, false, false, false, false] rfl rfl (by kernel_rfl) (fun _ _ _ h => h) (Or.inl ⟨by rfl, ?_⟩) ?_ ?_
            rotate_left
            · intro w'
              go_simp
              with_reducible rfl
            rotate_left
            · simp only [Act.put, List.setIfInBounds_toArray, List.set_cons_zero, List.set_cons_succ, i64_w, i32_w]
              rfl
            refine pure_ (i := 13) (N := some 74) (v := ?_) (a' := ?_) #[true, true, true, true, true, true, true, true, true, true, false, true, true, true, false, false, false] rfl rfl (by kernel_rfl) (fun _ _ _ h => h) (Or.inl ⟨by rfl, ?_⟩) ?_ ?_
            rotate_left
            · intro w'
              go_simp
              with_reducible rfl
            rotate_left
            · simp only [Act.put, List.setIfInBounds_toArray, List.set_cons_zero, List.set_cons_succ, i64_w, i32_w]
              rfl
            refine take_ (i := 14) (N := some 75) (v := ?_) (a' := ?_) #[true, true, true, true, true, true, true, true, true, true, false, true, true, true, true, false, false] rfl rfl (by kernel_rfl) (fun _ _ _ h => h) (Or.inl ⟨by rfl, ?_⟩) hHeld ?_ ?_
            rotate_left
            · rintro w' ⟨s0, s1, s2⟩
              go_simp
              with_reducible rfl
            rotate_left
            · simp only [Act.put, List.setIfInBounds_toArray, List.set_cons_zero, List.set_cons_succ, i64_w, i32_w]
              rfl
            refine one_ (i := 10) (N := some 71) #[true, true, true, true, true, true, true, true, true, true, true, true, true, true, true, false, false] rfl rfl (by kernel_rfl) (by decide) (fun K hK => ?_)
            refine goes_ Try.func20 (by kernel_rfl) rfl #[.slice (some ⟨w.heap.size + 1 + 1, 1, none⟩) 256 256] (by rfl) rfl rfl (by simp only [List.map_toArray, List.map_cons, List.map_nil]; rfl) ?_
            with_reducible refine (exec_Run.clone HS.out).mono ?_
            rintro e w3 ⟨mv, rfl, hr3, hb3⟩
            refine ⟨_, rfl, ?_⟩
            obtain ⟨Am2, cm2, emv⟩ := Kd.R_slice hr3
            subst emv
            have HMV := Aside0.mk (Kd.R_lower hr3 HB.out.size)
            have HB := Aside0.mk (HB.out.trans (hb3.mono HB.out.size))
            have HO := Aside0.mk ((hb3.block (w.heap.size + 1) (Array.getElem?_eq_some_iff.1 HO.out).1).trans HO.out)
            have HS := Aside0.mk (HS.out.below hb3)
            have y0 := (hb3.cell (World.block_lt_of_cell? _ _ y0)).trans y0
            have y1 := HS.out.at257
            have y2 := HS.out.at259
            clear hr3 hb3
            have o0 : w3.cell? ⟨w.heap.size + 1, 0, none⟩ = some (.int .i64 0) := cell_of_row w3 _ 0 _ _ _ HO.out
            have o1 : w3.cell? ⟨w.heap.size + 1, 1, none⟩ = some (.int .i64 0) := cell_of_row w3 _ 1 _ _ _ HO.out
            have o2 : w3.cell? ⟨w.heap.size + 1, 2, none⟩ = some (.slice none 0 0) := cell_of_row w3 _ 2 _ _ _ HO.out
            have o3 : w3.cell? ⟨w.heap.size + 1, 3, none⟩ = some (.slice none 0 0) := cell_of_row w3 _ 3 _ _ _ HO.out
            have o4 : w3.cell? ⟨w.heap.size + 1, 4, none⟩ = some (.int .i64 0) := cell_of_row w3 _ 4 _ _ _ HO.out
            have ofz : ∀ i, w3.frozen? ⟨w.heap.size + 1, i, none⟩ = false := fun i => by simp only [World.frozen?]; rw [HO.out]; rfl
            refine hK.out _ _ ⟨y0, y1, y2⟩ (fun hHeld => ?_)
            clear hK K
            refine norm_ (a' := ?_) ?_ ?_
            rotate_left
            · show Act.put _ (some 71) _ = _
              simp only [Act.put, List.setIfInBounds_toArray, List.set_cons_zero, List.set_cons_succ, i64_w, i32_w]
              rfl
            refine pure_ (i := 15) (N := some 76) (v := ?_) (a' := ?_) #[true, true, true, true, true, true, true, true, true, true, true, true, true, true, true, true, false] rfl rfl (by kernel_rfl) (fun _ _ _ h => h) (Or.inl ⟨by rfl, ?_⟩) ?_ ?_
            rotate_left
            · intro w'
              go_simp
              with_reducible rfl
            rotate_left
            · simp only [Act.put, List.setIfInBounds_toArray, List.set_cons_zero, List.set_cons_succ, i64_w, i32_w]
              rfl
            refine last_ (i := 16) (N := none) #[true, true, true, true, true, true, true, true, true, true, true, true, true, true, true, true, true] rfl rfl (by kernel_rfl) (by decide) (fun K hK => ?_)
            refine skip_ (w1 := ?_) (by rfl) rfl ?_ ?_
            rotate_left
            · go_simp
              rfl
            refine hK.out _ _ ?_
            clear hK K
            refine done_ (by kernel_rfl) ?_
            dsimp only [exec_Run.NQ]
            go_wp2_with (fail)
            have OB : Aside0 ((((((w3.setCell ⟨w.heap.size + 1, 0, none⟩ (.int .i64 (exec_ended.kind q).2)).setCell ⟨w.heap.size + 1, 1, none⟩ (.int .i64 (exec_ended.kind q).1)).setCell ⟨w.heap.size + 1, 2, none⟩ (.slice At m'.told.length ct)).setCell ⟨w.heap.size + 1, 3, none⟩ (.slice Am2 m'.mem.length cm2)).setCell ⟨w.heap.size + 1, 4, none⟩ (.int .i64 m'.steps)).heap[w.heap.size + 1]? = some (.cells #[.int .i64 (exec_ended.kind q).2, .int .i64 (exec_ended.kind q).1, .slice At m'.told.length ct, .slice Am2 m'.mem.length cm2, .int .i64 m'.steps] 36 (0, 0))) := ⟨blk_set (blk_set (blk_set (blk_set (blk_set HO.out 0 _) 1 _) 2 _) 3 _) 4 _⟩
            have HS := Aside0.mk (((((HS.out.nset (w.heap.size + 1) 0 (by omega) hgo (.int .i64 (exec_ended.kind q).2)).nset (w.heap.size + 1) 1 (by omega) hgo (.int .i64 (exec_ended.kind q).1)).nset (w.heap.size + 1) 2 (by omega) hgo (.slice At m'.told.length ct)).nset (w.heap.size + 1) 3 (by omega) hgo (.slice Am2 m'.mem.length cm2)).nset (w.heap.size + 1) 4 (by omega) hgo (.int .i64 m'.steps))
            have HMV := Aside0.mk (Kd.R_set (Kd.R_set (Kd.R_set (Kd.R_set (Kd.R_set HMV.out HO.out exec_Run.neO 0 (.int .i64 (exec_ended.kind q).2)) (blk_set HO.out 0 _) exec_Run.neO 1 (.int .i64 (exec_ended.kind q).1)) (blk_set (blk_set HO.out 0 _) 1 _) exec_Run.neO 2 (.slice At m'.told.length ct)) (blk_set (blk_set (blk_set HO.out 0 _) 1 _) 2 _) exec_Run.neO 3 (.slice Am2 m'.mem.length cm2)) (blk_set (blk_set (blk_set (blk_set HO.out 0 _) 1 _) 2 _) 3 _) exec_Run.neO 4 (.int .i64 m'.steps))
            have HB := Aside0.mk (((((HB.out.setCell (p := ⟨w.heap.size + 1, 0, none⟩) (Nat.le_succ _) (.int .i64 (exec_ended.kind q).2)).setCell (p := ⟨w.heap.size + 1, 1, none⟩) (Nat.le_succ _) (.int .i64 (exec_ended.kind q).1)).setCell (p := ⟨w.heap.size + 1, 2, none⟩) (Nat.le_succ _) (.slice At m'.told.length ct)).setCell (p := ⟨w.heap.size + 1, 3, none⟩) (Nat.le_succ _) (.slice Am2 m'.mem.length cm2)).setCell (p := ⟨w.heap.size + 1, 4, none⟩) (Nat.le_succ _) (.int .i64 m'.steps))
            clear o0 o1 o2 o3 o4 ofz y0 y1 y2 hHeld
            generalize (((((w3.setCell ⟨w.heap.size + 1, 0, none⟩ (.int .i64 (exec_ended.kind q).2)).setCell ⟨w.heap.size + 1, 1, none⟩ (.int .i64 (exec_ended.kind q).1)).setCell ⟨w.heap.size + 1, 2, none⟩ (.slice At m'.told.length ct)).setCell ⟨w.heap.size + 1, 3, none⟩ (.slice Am2 m'.mem.length cm2)).setCell ⟨w.heap.size + 1, 4, none⟩ (.int .i64 m'.steps)) = wf at OB HS HMV HB ⊢
            refine bodyPost_ret (results_cell_row rfl _ _ (w.heap.size + 1) 36 _ (0, 0) _ rfl OB.out Try.underlying36 rfl (by kernel_rfl)) rfl ⟨_, _, rfl, HS.out.tr, HMV.out, HB.out⟩

end Go.Proofs.Ytkjflclkjdbmoaa.PExecSlots

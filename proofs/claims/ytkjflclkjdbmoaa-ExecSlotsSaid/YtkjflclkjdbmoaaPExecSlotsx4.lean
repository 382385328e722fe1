-- By a program of this session (wip/tools/mkprint.py), for this claim.
import Derived.Test.YtkjflclkjdbmoaaPExecSlotsx0
import Derived.Test.YtkjflclkjdbmoaaPExecSlotsx1
import Derived.Test.YtkjflclkjdbmoaaPExecSlotsx3
namespace Go.Proofs.Ytkjflclkjdbmoaa.PExecSlots
open Go.RowKit Go.Proofs.YtkjflclkjdbmoaaW.PrintWords Go.Proofs.YtkjflclkjdbmoaaW.PrintLast Go.Proofs.YtkjflclkjdbmoaaW.PrintMore
attribute [local go_sem] max2_int min2_int max_two min_two max_three min_three max_four min_four   -- for this text's walks alone
set_option linter.unusedVariables false
set_option linter.unusedSimpArgs false

/-! ### cubbyref13_Check: function 6 (by hand) -/
def cubbyref13_Check.NQ (Q : Exit → Act → World → Prop) (e : Exit) (a : Act) (w : World) : Prop := match e with
  | .normal => Q .normal a w
  | _ => False
theorem cubbyref13_Check.wp_normal {P : Program} {c : Code} {Q : Exit → Act → World → Prop} {a : Act} {w : World} (h : c.wp P (cubbyref13_Check.NQ Q) a w) : c.wp P Q a w := wp_mono h (fun e a w q => by
  cases e <;> first | exact q | exact q.elim)
set_option maxHeartbeats 16000000 in
set_option maxRecDepth 100000 in
theorem cubbyref13_Check.calls (nm : ByteArray) (cp regs slots : Int) (Ab : Option Addr) (cbb : Nat) (blk : List Rn.Ins) (w : World)
    (hname : ∃ k, cubbyref07_Name.f k nm = some true) (hcp : 0 ≤ cp ∧ cp < 5) (hregs : 6 ≤ regs ∧ regs ≤ 16) (hsl : 0 ≤ slots ∧ slots < 65) (hB : Rn.kB.C w Ab 1 [blk]) (hlen : 0 < blk.length ∧ blk.length ≤ 1600)
    (hone : ∀ (W : World) (j : Nat) (Ag : Option Addr) (cg : Nat), j < blk.length → (Kd.int .i64).C W Ag (blk.getD j Rn.zI).args.length (blk.getD j Rn.zI).args → (blk.getD j Rn.zI).args.length ≤ cg → Calls Try.prog 15 #[.agg #[.int .i64 (blk.getD j Rn.zI).op, .int .i64 (blk.getD j Rn.zI).d, .int .i64 (blk.getD j Rn.zI).a, .int .i64 (blk.getD j Rn.zI).b, .string (blk.getD j Rn.zI).name, .slice Ag (blk.getD j Rn.zI).args.length cg], .agg #[.string nm, .int .i64 cp, .int .i64 regs, .int .i64 slots, .slice Ab 1 cbb], .bool (decide ((j : Int) = (blk.length : Int) - 1))] W fun e w' => e = .returned (.int .i64 0) ∧ Below W.heap.size W w') :
    Calls Try.prog 6 #[.agg #[.string nm, .int .i64 cp, .int .i64 regs, .int .i64 slots, .slice Ab 1 cbb]] w fun e w' => e = .returned (.int .i64 0) ∧ Below w.heap.size w w' := by
  obtain ⟨adb, Ai, ci, rfl, d0, hil, hiC⟩ := Rn.at_B hB 0 (by decide)
  have d0 : w.cell? adb = some (.slice Ai blk.length ci) := d0
  have hiC : Rn.kI.C w Ai blk.length blk := hiC
  have HN : Aside0 (∀ W, Calls Try.prog 13 #[.string nm] W fun e w' => e = .returned (.bool true) ∧ Below W.heap.size W w') := ⟨fun W => by
    obtain ⟨kn, hkn⟩ := hname
    exact (cubbyref07_Name.calls kn nm true W hkn).mono fun e w' h => ⟨h.1, cubbyref07_One.below_drawn h.2⟩⟩
  have HP : Aside0 (∀ W, Calls Try.prog 14 #[.int .i64 cp, .int .i64 5] W fun e w' => e = .returned (.bool true) ∧ Below W.heap.size W w') := ⟨fun W => by
    have e := cubbyref13_one.in_calls cp 5 W
    rw [show cubbyref13_one.inB cp 5 = true from decide_eq_true hcp] at e
    exact e⟩
  have HS : Aside0 (∀ W, Calls Try.prog 14 #[.int .i64 slots, .int .i64 65] W fun e w' => e = .returned (.bool true) ∧ Below W.heap.size W w') := ⟨fun W => by
    have e := cubbyref13_one.in_calls slots 65 W
    rw [show cubbyref13_one.inB slots 65 = true from decide_eq_true hsl] at e
    exact e⟩
  have HO := Aside0.mk hone
  have HI := Aside0.mk hiC
  have r1 : decide (regs < 6) = false := decide_eq_false (by omega)
  have r2 : decide (16 < regs) = false := decide_eq_false (by omega)
  have hl0 : blk.length ≠ 0 := by omega
  have hl1 : decide ((blk.length : Int) = 0) = false := decide_eq_false (by omega)
  have hl2 : decide (1600 < (blk.length : Int)) = false := decide_eq_false (by omega)
  clear hname hone hB hiC hcp hregs hsl
  obtain ⟨W2, hW2⟩ : ∃ W2, w.alloc (.cells #[.string nm, .int .i64 cp, .int .i64 regs, .int .i64 slots, .slice (some adb) 1 cbb] 31) = W2 := ⟨_, rfl⟩
  have e1 : W2.heap[w.heap.size]? = some (.cells #[.string nm, .int .i64 cp, .int .i64 regs, .int .i64 slots, .slice (some adb) 1 cbb] 31) := by rw [← hW2]; exact Hw.blk_nw w _
  have HB := Aside0.mk (show Below w.heap.size w W2 by rw [← hW2]; exact (Below.refl w.heap.size w).alloc (Nat.le_refl _) _)
  have l1 := (Array.getElem?_eq_some_iff.1 e1).1
  have KX : Aside0 (∀ W3, Below W2.heap.size W2 W3 → W3.cell? ⟨w.heap.size, 0, none⟩ = some (.string nm) ∧ W3.cell? ⟨w.heap.size, 1, none⟩ = some (.int .i64 cp) ∧ W3.cell? ⟨w.heap.size, 2, none⟩ = some (.int .i64 regs) ∧ W3.cell? ⟨w.heap.size, 3, none⟩ = some (.int .i64 slots) ∧ W3.cell? ⟨w.heap.size, 4, none⟩ = some (.slice (some adb) 1 cbb) ∧ W3.cell? adb = some (.slice Ai blk.length ci)) := ⟨fun W3 hb => by
    have f1 := (hb.block _ l1).trans e1
    exact ⟨cell_of_row W3 _ 0 _ _ _ f1, cell_of_row W3 _ 1 _ _ _ f1, cell_of_row W3 _ 2 _ _ _ f1, cell_of_row W3 _ 3 _ _ _ f1, cell_of_row W3 _ 4 _ _ _ f1, ((HB.out.trans (hb.mono HB.out.size)).cell (World.block_lt_of_cell? w _ d0)).trans d0⟩⟩
  have HW := Lib.hid hW2
  have HX := Aside0.mk (Below.refl W2.heap.size W2)
  have HE : Aside0 (∀ W3, Below W2.heap.size W2 W3 → Below w.heap.size w W3) := ⟨fun W3 hb => HB.out.trans (hb.mono HB.out.size)⟩
  clear hW2 e1 l1 d0
  go_enter Try.func6, Try.ntmps6
  go_upto_region 1 with fail
  rw [HW.out]
  clear HW HB
  obtain ⟨k0, k1, k2, k3, k4, k5⟩ := KX.out _ HX.out
  go_upto_region 5 with (first | (go_at_call 13; (with_reducible refine (HN.out _).mono ?_); rintro e w9 ⟨rfl, hb⟩; have HX := Aside0.mk (HX.out.trans (hb.mono HX.out.size)); clear hb k0 k1 k2 k3 k4 k5; obtain ⟨k0, k1, k2, k3, k4, k5⟩ := KX.out _ HX.out) | (go_at_call 14; (with_reducible refine (HP.out _).mono ?_); rintro e w9 ⟨rfl, hb⟩; have HX := Aside0.mk (HX.out.trans (hb.mono HX.out.size)); clear hb k0 k1 k2 k3 k4 k5; obtain ⟨k0, k1, k2, k3, k4, k5⟩ := KX.out _ HX.out) | (go_at_call 14; (with_reducible refine (HS.out _).mono ?_); rintro e w9 ⟨rfl, hb⟩; have HX := Aside0.mk (HX.out.trans (hb.mono HX.out.size)); clear hb k0 k1 k2 k3 k4 k5; obtain ⟨k0, k1, k2, k3, k4, k5⟩ := KX.out _ HX.out))
  clear k0 k1 k2 k3 k4 k5 HN HP HS r1 r2
  go_wp2_with (fail)
  go_loopg [3, 4] 1 (fun gg v3 v4 wq => ((v3 = .int .i64 0 ∧ v4 = .int .i64 0 ∧ 1 ≤ gg) ∨ (v3 = .int .i64 (blk.length : Int) ∧ v4 = .int .i64 1)) ∧ Aside0 (Below W2.heap.size W2 wq))
  case atStart => exact ⟨.inl ⟨rfl, rfl, Nat.le_refl _⟩, HX⟩
  case round =>
    clear HX
    obtain ⟨hv, HX⟩ := hrel
    obtain ⟨k0, k1, k2, k3, k4, k5⟩ := KX.out _ HX.out
    rcases hv with ⟨rfl, rfl, hgg⟩ | ⟨rfl, rfl⟩
    · obtain ⟨gk, rfl⟩ : ∃ q, gk = q + 1 := by
        cases gk with
        | zero => omega
        | succ q => exact ⟨q, rfl⟩
      go_wp2_with (fail)
      go_roundg gk
      case measure => omega
      case rel => exact ⟨.inr ⟨by simp, rfl⟩, HX⟩
    · clear k0 k1 k2 k3 k5
      go_wp2_with (fail)
      clear k4
      go_loopg [5, 6, 7] 1 (fun gg v5 v6 v7 wq => ((v5 = .int .i64 0 ∧ 1 ≤ gg) ∨ v5 = .int .i64 1) ∧ Aside0 (Below W2.heap.size W2 wq))
      case atStart => exact ⟨.inl ⟨rfl, Nat.le_refl _⟩, HX⟩
      case round =>
        clear HX
        obtain ⟨hv, HX⟩ := hrel
        obtain ⟨k0, k1, k2, k3, k4, k5⟩ := KX.out _ HX.out
        rcases hv with ⟨rfl, hgg⟩ | rfl
        · obtain ⟨go, rfl⟩ : ∃ q, gk = q + 1 := by
            cases gk with
            | zero => omega
            | succ q => exact ⟨q, rfl⟩
          clear k0 k1 k2 k3 k5
          go_wp2_with (fail)
          clear k4
          go_loopg [6, 7] blk.length (fun gg v6 v7 wq => ∃ j : Nat, v6 = .int .i64 (j : Int) ∧ j ≤ blk.length ∧ blk.length - j ≤ gg ∧ Aside0 (Below W2.heap.size W2 wq))
          case atStart => exact ⟨0, rfl, Nat.zero_le _, by omega, HX⟩
          case round =>
            clear HX
            obtain ⟨j, rfl, hj, hgj, HX⟩ := hrel
            obtain ⟨k0, k1, k2, k3, k4, k5⟩ := KX.out _ HX.out
            by_cases hjl : j < blk.length
            · obtain ⟨gj, rfl⟩ : ∃ q, gk = q + 1 := by
                cases gk with
                | zero => omega
                | succ q => exact ⟨q, rfl⟩
              obtain ⟨adi, Ag, cg, rfl, x0, x1, x2, x3, x4, x5, hag, haC⟩ := Rn.at_I HI.out j hjl
              have zb : ((j : Int) == wrap64 ((blk.length : Int) - 1)) = decide ((j : Int) = (blk.length : Int) - 1) := by rw [Hw.w64 _ (by omega) (by omega)]; rfl
              have HO2 := Aside0.mk (fun W hb => HO.out W j Ag cg hjl (Kd.C_below haC hb) hag)
              rw [← zb] at HO2
              clear zb
              clear haC
              generalize blk.getD j Rn.zI = x at x0 x1 x2 x3 x4 x5 HO2
              obtain ⟨xop, xd, xa, xb, xn, xs⟩ := x
              dsimp only at x0 x1 x2 x3 x4 x5 HO2
              have KY : Aside0 (∀ W3, Below W2.heap.size W2 W3 → W3.cell? (adi.add (j * 6)) = some (.int .i64 xop) ∧ W3.cell? ⟨(adi.add (j * 6)).block, (adi.add (j * 6)).off + 1, none⟩ = some (.int .i64 xd) ∧ W3.cell? ⟨(adi.add (j * 6)).block, (adi.add (j * 6)).off + 2, none⟩ = some (.int .i64 xa) ∧ W3.cell? ⟨(adi.add (j * 6)).block, (adi.add (j * 6)).off + 3, none⟩ = some (.int .i64 xb) ∧ W3.cell? ⟨(adi.add (j * 6)).block, (adi.add (j * 6)).off + 4, none⟩ = some (.string xn) ∧ W3.cell? ⟨(adi.add (j * 6)).block, (adi.add (j * 6)).off + 5, none⟩ = some (.slice Ag xs.length cg)) := ⟨fun W3 hb0 => by
                have hb := HE.out W3 hb0
                exact ⟨(hb.cell (World.block_lt_of_cell? w _ x0)).trans x0, (hb.cell (World.block_lt_of_cell? w _ x1)).trans x1, (hb.cell (World.block_lt_of_cell? w _ x2)).trans x2, (hb.cell (World.block_lt_of_cell? w _ x3)).trans x3, (hb.cell (World.block_lt_of_cell? w _ x4)).trans x4, (hb.cell (World.block_lt_of_cell? w _ x5)).trans x5⟩⟩
              clear x0 x1 x2 x3 x4 x5
              have zj : (j : Int) < (blk.length : Int) := by omega
              clear k0 k1 k2 k3
              go_upto_region 20 with fail
              obtain ⟨x0, x1, x2, x3, x4, x5⟩ := KY.out _ HX.out
              obtain ⟨k0, k1, k2, k3, k4, k5⟩ := KX.out _ HX.out
              refine cubbyref13_Check.wp_normal ?_
              -- REGION 20
              refine start_ (n := 20) (S := fun w' => w'.cell? ⟨w.heap.size, 0, none⟩ = some (.string nm) ∧ w'.cell? ⟨w.heap.size, 1, none⟩ = some (.int .i64 cp) ∧ w'.cell? ⟨w.heap.size, 2, none⟩ = some (.int .i64 regs) ∧ w'.cell? ⟨w.heap.size, 3, none⟩ = some (.int .i64 slots) ∧ w'.cell? ⟨w.heap.size, 4, none⟩ = some (.slice (some adb) 1 cbb) ∧ w'.cell? adb = some (.slice (some adi) blk.length ci) ∧ w'.cell? (adi.add (j * 6)) = some (.int .i64 xop) ∧ w'.cell? ⟨(adi.add (j * 6)).block, (adi.add (j * 6)).off + 1, none⟩ = some (.int .i64 xd) ∧ w'.cell? ⟨(adi.add (j * 6)).block, (adi.add (j * 6)).off + 2, none⟩ = some (.int .i64 xa) ∧ w'.cell? ⟨(adi.add (j * 6)).block, (adi.add (j * 6)).off + 3, none⟩ = some (.int .i64 xb) ∧ w'.cell? ⟨(adi.add (j * 6)).block, (adi.add (j * 6)).off + 4, none⟩ = some (.string xn) ∧ w'.cell? ⟨(adi.add (j * 6)).block, (adi.add (j * 6)).off + 5, none⟩ = some (.slice Ag xs.length cg)) (ds := []) #[false, false, false, false, false, false, false, false, false, false, false, false, false, false, false, false, false, false, false, false] (by kernel_rfl) rfl rfl ⟨k0, k1, k2, k3, k4, k5, x0, x1, x2, x3, x4, x5⟩ (fun hHeld => ?_)
              refine pure_ (i := 0) (N := some 94) (v := ?_) (a' := ?_) #[true, false, false, false, false, false, false, false, false, false, false, false, false, false, false, false, false, false, false, false] rfl rfl (by kernel_rfl) (fun _ _ _ h => h) (Or.inl ⟨by rfl, ?_⟩) ?_ ?_
              rotate_left
              · intro w'
                go_simp
                with_reducible rfl
              rotate_left
              · simp only [Act.put, List.setIfInBounds_toArray, List.set_cons_zero, List.set_cons_succ, i64_w, i32_w]
                rfl
              refine pure_ (i := 2) (N := some 96) (v := ?_) (a' := ?_) #[true, false, true, false, false, false, false, false, false, false, false, false, false, false, false, false, false, false, false, false] rfl rfl (by kernel_rfl) (fun _ _ _ h => h) (Or.inl ⟨by rfl, ?_⟩) ?_ ?_
              rotate_left
              · intro w'
                go_simp
                with_reducible rfl
              rotate_left
              · simp only [Act.put, List.setIfInBounds_toArray, List.set_cons_zero, List.set_cons_succ, i64_w, i32_w]
                rfl
              refine pure_ (i := 5) (N := some 99) (v := ?_) (a' := ?_) #[true, false, true, false, false, true, false, false, false, false, false, false, false, false, false, false, false, false, false, false] rfl rfl (by kernel_rfl) (fun _ _ _ h => h) (Or.inl ⟨by rfl, ?_⟩) ?_ ?_
              rotate_left
              · intro w'
                go_simp
                with_reducible rfl
              rotate_left
              · simp only [Act.put, List.setIfInBounds_toArray, List.set_cons_zero, List.set_cons_succ, i64_w, i32_w]
                rfl
              refine pure_ (i := 9) (N := some 103) (v := ?_) (a' := ?_) #[true, false, true, false, false, true, false, false, false, true, false, false, false, false, false, false, false, false, false, false] rfl rfl (by kernel_rfl) (fun _ _ _ h => h) (Or.inl ⟨by rfl, ?_⟩) ?_ ?_
              rotate_left
              · intro w'
                go_simp
                with_reducible rfl
              rotate_left
              · simp only [Act.put, List.setIfInBounds_toArray, List.set_cons_zero, List.set_cons_succ, i64_w, i32_w]
                rfl
              refine pure_ (i := 10) (N := some 104) (v := ?_) (a' := ?_) #[true, false, true, false, false, true, false, false, false, true, true, false, false, false, false, false, false, false, false, false] rfl rfl (by kernel_rfl) (fun _ _ _ h => h) (Or.inl ⟨by rfl, ?_⟩) ?_ ?_
              rotate_left
              · intro w'
                go_simp
                with_reducible rfl
              rotate_left
              · simp only [Act.put, List.setIfInBounds_toArray, List.set_cons_zero, List.set_cons_succ, i64_w, i32_w]
                rfl
              refine pure_ (i := 12) (N := some 106) (v := ?_) (a' := ?_) #[true, false, true, false, false, true, false, false, false, true, true, false, true, false, false, false, false, false, false, false] rfl rfl (by kernel_rfl) (fun _ _ _ h => h) (Or.inl ⟨by rfl, ?_⟩) ?_ ?_
              rotate_left
              · intro w'
                go_simp
                with_reducible rfl
              rotate_left
              · simp only [Act.put, List.setIfInBounds_toArray, List.set_cons_zero, List.set_cons_succ, i64_w, i32_w]
                rfl
              refine take_ (i := 1) (N := some 95) (v := ?_) (a' := ?_) #[true, true, true, false, false, true, false, false, false, true, true, false, true, false, false, false, false, false, false, false] rfl rfl (by kernel_rfl) (fun _ _ _ h => h) (Or.inl ⟨by rfl, ?_⟩) hHeld ?_ ?_
              rotate_left
              · rintro w' ⟨s0, s1, s2, s3, s4, s5, s6, s7, s8, s9, s10, s11⟩
                go_simp
                with_reducible rfl
              rotate_left
              · simp only [Act.put, List.setIfInBounds_toArray, List.set_cons_zero, List.set_cons_succ, i64_w, i32_w]
                rfl
              refine pure_ (i := 3) (N := some 97) (v := ?_) (a' := ?_) #[true, true, true, true, false, true, false, false, false, true, true, false, true, false, false, false, false, false, false, false] rfl rfl (by kernel_rfl) (fun _ _ _ h => h) (Or.inl ⟨by rfl, ?_⟩) ?_ ?_
              rotate_left
              · intro w'
                go_simp
                with_reducible rfl
              rotate_left
              · simp only [Act.put, List.setIfInBounds_toArray, List.set_cons_zero, List.set_cons_succ, i64_w, i32_w]
                rfl
              refine take_ (i := 4) (N := some 98) (v := ?_) (a' := ?_) #[true, true, true, true, true, true, false, false, false, true, true, false, true, false, false, false, false, false, false, false] rfl rfl (by kernel_rfl) (fun _ _ _ h => h) (Or.inl ⟨by rfl, ?_⟩) hHeld ?_ ?_
              rotate_left
              · rintro w' ⟨s0, s1, s2, s3, s4, s5, s6, s7, s8, s9, s10, s11⟩
                go_simp
                with_reducible rfl
              rotate_left
              · simp only [Act.put, List.setIfInBounds_toArray, List.set_cons_zero, List.set_cons_succ, i64_w, i32_w]
                rfl
              refine pure_ (i := 6) (N := some 100) (v := ?_) (a' := ?_) #[true, true, true, true, true, true, true, false, false, true, true, false, true, false, false, false, false, false, false, false] rfl rfl (by kernel_rfl) (fun _ _ _ h => h) (Or.inl ⟨by rfl, ?_⟩) ?_ ?_
              rotate_left
              · intro w'
                go_simp
                with_reducible rfl
              rotate_left
              · simp only [Act.put, List.setIfInBounds_toArray, List.set_cons_zero, List.set_cons_succ, i64_w, i32_w]
                rfl
              refine take_ (i := 7) (N := some 101) (v := ?_) (a' := ?_) #[true, true, true, true, true, true, true, true, false, true, true, false, true, false, false, false, false, false, false, false] rfl rfl (by kernel_rfl) (fun _ _ _ h => h) (Or.inl ⟨by rfl, ?_⟩) hHeld ?_ ?_
              rotate_left
              · rintro w' ⟨s0, s1, s2, s3, s4, s5, s6, s7, s8, s9, s10, s11⟩
                go_simp
                with_reducible rfl
              rotate_left
              · simp only [Act.put, List.setIfInBounds_toArray, List.set_cons_zero, List.set_cons_succ, i64_w, i32_w]
                rfl
              refine take_ (i := 8) (N := some 102) (v := ?_) (a' := ?_) #[true, true, true, true, true, true, true, true, true, true, true, false, true, false, false, false, false, false, false, false] rfl rfl (by kernel_rfl) (fun _ _ _ h => h) (Or.inl ⟨by rfl, ?_⟩) hHeld ?_ ?_
              rotate_left
              · rintro w' ⟨s0, s1, s2, s3, s4, s5, s6, s7, s8, s9, s10, s11⟩
                go_simp
                with_reducible rfl
              rotate_left
              · simp only [Act.put, List.setIfInBounds_toArray, List.set_cons_zero, List.set_cons_succ, i64_w, i32_w]
                rfl
              refine take_ (i := 11) (N := some 105) (v := ?_) (a' := ?_) #[true, true, true, true, true, true, true, true, true, true, true, true, true, false, false, false, false, false, false, false] rfl rfl (by kernel_rfl) (fun _ _ _ h => h) (Or.inl ⟨by rfl, ?_⟩) hHeld ?_ ?_
              rotate_left
              · rintro w' ⟨s0, s1, s2, s3, s4, s5, s6, s7, s8, s9, s10, s11⟩
                go_simp
                with_reducible rfl
              rotate_left
              · simp only [Act.put, List.setIfInBounds_toArray, List.set_cons_zero, List.set_cons_succ, i64_w, i32_w]
                rfl
              refine pure_ (i := 13) (N := some 107) (v := ?_) (a' := ?_) #[true, true, true, true, true, true, true, true, true, true, true, true, true, true, false, false, false, false, false, false] rfl rfl (by kernel_rfl) (fun _ _ _ h => h) (Or.inl ⟨by rfl, ?_⟩) ?_ ?_
              rotate_left
              · intro w'
                go_simp
                with_reducible rfl
              rotate_left
              · simp only [Act.put, List.setIfInBounds_toArray, List.set_cons_zero, List.set_cons_succ, i64_w, i32_w]
                rfl
              refine take_ (i := 14) (N := some 108) (v := ?_) (a' := ?_) #[true, true, true, true, true, true, true, true, true, true, true, true, true, true, true, false, false, false, false, false] rfl rfl (by kernel_rfl) (fun _ _ _ h => h) (Or.inl ⟨by rfl, ?_⟩) hHeld ?_ ?_
              rotate_left
              · rintro w' ⟨s0, s1, s2, s3, s4, s5, s6, s7, s8, s9, s10, s11⟩
                go_simp
                with_reducible rfl
              rotate_left
              · simp only [Act.put, List.setIfInBounds_toArray, List.set_cons_zero, List.set_cons_succ, i64_w, i32_w]
                rfl
              refine pure_ (i := 15) (N := some 109) (v := ?_) (a' := ?_) #[true, true, true, true, true, true, true, true, true, true, true, true, true, true, true, true, false, false, false, false] rfl rfl (by kernel_rfl) (fun _ _ _ h => h) (Or.inl ⟨by rfl, ?_⟩) ?_ ?_
              rotate_left
              · intro w'
                go_simp
                with_reducible rfl
              rotate_left
              · simp only [Act.put, List.setIfInBounds_toArray, List.set_cons_zero, List.set_cons_succ, i64_w, i32_w]
                rfl
              refine pure_ (i := 16) (N := some 110) (v := ?_) (a' := ?_) #[true, true, true, true, true, true, true, true, true, true, true, true, true, true, true, true, true, false, false, false] rfl rfl (by kernel_rfl) (fun _ _ _ h => h) (Or.inl ⟨by rfl, ?_⟩) ?_ ?_
              rotate_left
              · intro w'
                go_simp
                with_reducible rfl
              rotate_left
              · simp only [Act.put, List.setIfInBounds_toArray, List.set_cons_zero, List.set_cons_succ, i64_w, i32_w]
                rfl
              refine pure_ (i := 17) (N := some 111) (v := ?_) (a' := ?_) #[true, true, true, true, true, true, true, true, true, true, true, true, true, true, true, true, true, true, false, false] rfl rfl (by kernel_rfl) (fun _ _ _ h => h) (Or.inl ⟨by rfl, ?_⟩) ?_ ?_
              rotate_left
              · intro w'
                go_simp
                with_reducible rfl
              rotate_left
              · simp only [Act.put, List.setIfInBounds_toArray, List.set_cons_zero, List.set_cons_succ, i64_w, i32_w]
                rfl
              refine one_ (i := 18) (N := some 112) #[true, true, true, true, true, true, true, true, true, true, true, true, true, true, true, true, true, true, true, false] rfl rfl (by kernel_rfl) (by decide) (fun K hK => ?_)
              refine goes_ Try.func15 (by kernel_rfl) rfl #[.agg #[.int .i64 xop, .int .i64 xd, .int .i64 xa, .int .i64 xb, .string xn, .slice Ag xs.length cg], .agg #[.string nm, .int .i64 cp, .int .i64 regs, .int .i64 slots, .slice (some adb) 1 cbb], .bool ((j : Int) == wrap64 ((blk.length : Int) - 1))] (by rfl) rfl rfl (by simp only [List.map_toArray, List.map_cons, List.map_nil]; rfl) ?_
              with_reducible refine (HO2.out _ (HE.out _ HX.out.drew)).mono ?_
              rintro e w3 ⟨rfl, hb⟩
              refine ⟨_, rfl, ?_⟩
              have HX := Aside0.mk (HX.out.drew.trans (hb.mono HX.out.drew.size))
              clear hb k0 k1 k2 k3 k4 k5 x0 x1 x2 x3 x4 x5
              obtain ⟨k0, k1, k2, k3, k4, k5⟩ := KX.out _ HX.out
              obtain ⟨x0, x1, x2, x3, x4, x5⟩ := KY.out _ HX.out
              refine hK.out _ _ ⟨k0, k1, k2, k3, k4, k5, x0, x1, x2, x3, x4, x5⟩ (fun hHeld => ?_)
              clear hK K
              refine norm_ (a' := ?_) ?_ ?_
              rotate_left
              · show Act.put _ (some 112) _ = _
                simp only [Act.put, List.setIfInBounds_toArray, List.set_cons_zero, List.set_cons_succ, i64_w, i32_w]
                rfl
              refine pure_ (i := 19) (N := some 7) (v := ?_) (a' := ?_) #[true, true, true, true, true, true, true, true, true, true, true, true, true, true, true, true, true, true, true, true] rfl rfl (by kernel_rfl) (fun _ _ _ h => h) (Or.inl ⟨by rfl, ?_⟩) ?_ ?_
              rotate_left
              · intro w'
                go_simp
                with_reducible rfl
              rotate_left
              · simp only [Act.put, List.setIfInBounds_toArray, List.set_cons_zero, List.set_cons_succ, i64_w, i32_w]
                rfl
              refine done_ (by kernel_rfl) ?_
              dsimp only [cubbyref13_Check.NQ]
              clear k0 k1 k2 k3 k4 k5 x0 x1 x2 x3 x4 x5 hHeld
              go_wp2_with (fail)
              go_roundg gj
              case measure => omega
              case rel => exact ⟨j + 1, by rw [Int.natCast_add]; rfl, by omega, by omega, HX⟩
            · obtain rfl : j = blk.length := by omega
              go_wp2_with (fail)
              go_roundg go
              case measure => omega
              case rel => exact ⟨.inr rfl, HX⟩
        · clear k0 k1 k2 k3 k5
          go_wp2_with (fail)
          go_ret
          exact ⟨rfl, HE.out _ HX.out⟩

/-! ### run_Word: function 16 -/
def run_Word.f (a0 : Int) : Option (Int) := some (Go.bits .and .i64 a0 65535)
set_option maxHeartbeats 8000000 in
set_option maxRecDepth 100000 in
theorem run_Word.calls (a0 : Int) (r : Int) (w : World) (h : run_Word.f a0 = some r) :
    Calls Try.prog 16 #[.int .i64 a0] w fun e w' => e = .returned (.int .i64 r) ∧ Drawn0 w w' := by
  have H : (some (Go.bits .and .i64 a0 65535)) = some r := h
  clear h
  obtain rfl := Option.some.inj H
  go_enter Try.func16, Try.ntmps16
  go_wp2
  go_ret
  exact ⟨by first | rfl | (simp; done) | (simp [*]; done), by repeat (first | exact Drawn0.refl _ | apply Drawn0.step)⟩

-- NOT PRINTED: function 26 (exec_ended_1)

/-! ### exec_ended: function 17 (by hand) -/
def exec_ended.pk (k : Int) (r : Bool) : List PanicEntry := [{ v := .iface 71 (.int .i64 k), recovered := r }]
theorem exec_ended.lift {P : Program} {c1 c2 : Code} {Q : Exit → Act → List Frame → World → Prop} {a : Act} {cs : List Frame} {w : World} (Q0 : Exit → Act → World → Prop) (hQ : ∀ e a' w', Q0 e a' w' → Q e a' cs w') (h : c1.wp P (Exit.then (c2.wp P Q0) Q0) a w) : c1.wpS P (Exit.thenS (c2.wpS P Q) Q) a cs w := by
  refine wpS_of_wp (wp_mono h (fun e a' w' h' => ?_))
  cases e with
  | normal => exact wpS_of_wp (wp_mono h' (fun e a w q => hQ e a w q))
  | _ => exact hQ _ _ _ h'
set_option maxHeartbeats 4000000 in
set_option maxRecDepth 100000 in
theorem exec_ended.d_ret (vb kb : Nat) (w : World) : CallsD Try.prog 26 #[.pointer (some ⟨vb, 0, none⟩), .pointer (some ⟨kb, 0, none⟩)] .returning w fun e u' w' => e = .returned (.tuple #[]) ∧ u' = .returning ∧ w' = w := by
  refine callsD_of_wpS Try.func26 rfl fun c₀ cs hu => ?_
  simp only [Try.ntmps26, List.size_toArray, List.length_cons, List.length_nil, Nat.reduceAdd, Nat.reduceSub, Array.replicate_succ, Array.replicate_zero, List.push_toArray, List.append_toArray, List.nil_append, List.cons_append]
  apply wpS_seq
  apply wpS_region
  simp [wpOpsS, go_sem, recoverD, hu, Exit.thenS]
  refine wpS_of_wp ?_
  go_wp2_with (fail)
  refine ⟨rfl, .returning, ?_, .tuple #[], results_none rfl _ _ _, rfl, rfl, rfl⟩
  cases c₀
  simp only at hu
  subst hu
  rfl
set_option maxHeartbeats 4000000 in
set_option maxRecDepth 100000 in
theorem exec_ended.d_panic (vb kb : Nat) (k v0 k0 : Int) (w : World) (hv : Ex.Int1 w vb v0) (hk : Ex.Int1 w kb k0) (hne : vb ≠ kb) : CallsD Try.prog 26 #[.pointer (some ⟨vb, 0, none⟩), .pointer (some ⟨kb, 0, none⟩)] (.panicking (exec_ended.pk k false)) w fun e u' w' => e = .returned (.tuple #[]) ∧ u' = .panicking (exec_ended.pk k true) ∧ Ex.Int1 w' vb 0 ∧ Ex.Int1 w' kb k ∧ Ex.Off2 vb kb w w' := by
  refine callsD_of_wpS Try.func26 rfl fun c₀ cs hu => ?_
  simp only [Try.ntmps26, List.size_toArray, List.length_cons, List.length_nil, Nat.reduceAdd, Nat.reduceSub, Array.replicate_succ, Array.replicate_zero, List.push_toArray, List.append_toArray, List.nil_append, List.cons_append]
  apply wpS_seq
  apply wpS_region
  unfold exec_ended.pk at hu ⊢
  simp [wpOpsS, go_sem, recoverD, hu, Exit.thenS]
  refine wpS_of_wp ?_
  have hta : ∀ w : World, (Instr.typeAssert (.iface 71 (.int .i64 k)) 20 71 false).run Try.prog w = .ok (.int .i64 k) w := fun w => by kernel_rfl
  obtain ⟨v1, v2⟩ := hv.cell
  obtain ⟨k1, k2⟩ := hk.cell
  go_wp2_with (fail)
  go_region
  have h1 : Ex.Int1 ((w.setCell ⟨vb, 0, none⟩ (.int .i64 0)).setCell ⟨kb, 0, none⟩ (.int .i64 k)).drew vb 0 := (hv.set 0).far hne _
  have h2 : Ex.Int1 ((w.setCell ⟨vb, 0, none⟩ (.int .i64 0)).setCell ⟨kb, 0, none⟩ (.int .i64 k)).drew kb k := (hk.far (fun e => hne e.symm) _).set k
  have h3 : Ex.Off2 vb kb w ((w.setCell ⟨vb, 0, none⟩ (.int .i64 0)).setCell ⟨kb, 0, none⟩ (.int .i64 k)).drew := (((Ex.Off2.refl vb kb w).setv _).setk _).drew
  go_wp2_with (fail)
  exact ⟨rfl, .panicking [{ v := .iface 71 (.int .i64 k), recovered := true }], rfl, .tuple #[], results_none rfl _ _ _, rfl, rfl, h1, h2, h3⟩
def exec_ended.kind : Rn.Res → Int × Int
  | .val v => (v, 1)
  | .trap => (0, 2)
  | .out => (0, 3)
set_option maxHeartbeats 4000000 in
set_option maxRecDepth 100000 in
theorem exec_ended.calls (g : Nat) (lb : Array Value) (eg : ∀ args w, (callFunc g args).run Try.prog w = .ok (.enter g args) w) (q : Rn.Res) (w : World) (base gm : Nat) (A : Option Addr) (n c : Nat) (fuel : Int) (m m' : Rn.M) (tv : Value) (hs : Ex.St w base gm A n c fuel m tv)
    (hdo : ∀ W, Below w.heap.size w W → Calls Try.prog g lb W fun e w' => e = Ex.ending q ∧ ∃ tv', Ex.St w' base gm A n c fuel m' tv' ∧ Rn.Fr base gm tv tv' W w') :
    Calls Try.prog 17 #[.func (.func g) #[] lb] w fun e w' => e = .returned (.tuple #[.int .i64 (exec_ended.kind q).1, .int .i64 (exec_ended.kind q).2]) ∧ ∃ tv', Ex.St w' base gm A n c fuel m' tv' ∧ Rn.Fr base gm tv tv' w w' := by
  have hb := hs.hb
  have hgm : gm < w.heap.size := (Array.getElem?_eq_some_iff.1 hs.ob).1
  have hown : ∀ k, some k = tv.ownBlock → k < w.heap.size := fun k hk => by
    obtain ⟨_, ho⟩ := Kd.R_own hs.tr
    exact own_lt ho k hk.symm
  have HOWN := Aside0.mk hown
  have B2 := ((Below.refl w.heap.size w).alloc (Nat.le_refl _) (.cells #[.int .i64 0] 3)).alloc (by simp) (.cells #[.int .i64 0] 3)
  have HC := Aside0.mk (hdo _ B2)
  have HV : Aside0 (Ex.Int1 ((w.alloc (.cells #[.int .i64 0] 3)).alloc (.cells #[.int .i64 0] 3)) w.heap.size 0) := ⟨Hw.blk_al (Hw.blk_nw w _) _⟩
  have HK : Aside0 (Ex.Int1 ((w.alloc (.cells #[.int .i64 0] 3)).alloc (.cells #[.int .i64 0] 3)) (w.heap.size + 1) 0) := ⟨Hw.blk_nw1 w _ _⟩
  have HF := Aside0.mk (Rn.Fr.of (gm := gm) (tv := tv) B2 hb)
  have hsz : ((w.alloc (.cells #[.int .i64 0] 3)).alloc (.cells #[.int .i64 0] 3)).heap.size = w.heap.size + 1 + 1 := by simp
  have hmf : ∀ (fn : Fn) (first cap : Array Value) (w : World), (Instr.makeFunc fn first cap).run Try.prog w = .ok (.func fn first cap) w := fun _ _ _ _ => rfl
  have EG := eg
  clear hs hdo B2 hown
  go_enter_defers Try.func17, Try.ntmps17
  go_upto_region 1 with fail
  generalize (w.alloc (.cells #[.int .i64 0] 3)).alloc (.cells #[.int .i64 0] 3) = W2 at HC HV HK HF hsz ⊢
  cases q with
  | val v =>
    dsimp only [Ex.ending] at HC
    go_wp2_with (go_at_fn g; refine HC.out.mono ?_; rintro e w9 ⟨rfl, tv9, hs9, hf9⟩; have HV : Aside0 (Ex.Int1 w9 w.heap.size 0) := ⟨(hf9.f w.heap.size (by omega) (by omega) (fun e => Nat.lt_irrefl _ (HOWN.out _ e))).trans HV.out⟩; have HK : Aside0 (Ex.Int1 w9 (w.heap.size + 1) 0) := ⟨(hf9.f (w.heap.size + 1) (by omega) (by omega) (fun e => by have := HOWN.out _ e; omega)).trans HK.out⟩; have HF := Aside0.mk (HF.out.trans hf9); have HS := Aside0.mk hs9; have HO9 := Aside0.mk hf9.g; clear hs9 hf9; obtain ⟨v1, v2⟩ := HV.out.cell; obtain ⟨k1, k2⟩ := HK.out.cell)
    clear v1 v2 k1 k2
    have hv9 : some w.heap.size ≠ tv9.ownBlock := fun e => by
      rcases HO9.out _ e with q | q
      · exact Nat.lt_irrefl _ (HOWN.out _ q)
      · omega
    have hk9 : some (w.heap.size + 1) ≠ tv9.ownBlock := fun e => by
      rcases HO9.out _ e with q | q
      · have := HOWN.out _ q
        omega
      · omega
    have HV := Aside0.mk ((HV.out.set v).far (b' := w.heap.size + 1) (by omega) (.int .i64 1))
    have HK := Aside0.mk ((HK.out.far (b' := w.heap.size) (by omega) (.int .i64 v)).set 1)
    have OF : Ex.Off2 w.heap.size (w.heap.size + 1) w9 ((w9.setCell ⟨w.heap.size, 0, none⟩ (.int .i64 v)).setCell ⟨w.heap.size + 1, 0, none⟩ (.int .i64 1)) := ((Ex.Off2.refl _ _ _).setv _).setk _
    have HF := Aside0.mk (Ex.Fr.off2 HF.out OF (Nat.le_refl _) (Nat.le_succ _) hb (by omega) HS.out.hb)
    have HS := Aside0.mk (HS.out.off2 OF (by omega) (by omega) hv9 hk9)
    clear OF
    generalize (w9.setCell ⟨w.heap.size, 0, none⟩ (.int .i64 v)).setCell ⟨w.heap.size + 1, 0, none⟩ (.int .i64 1) = w10 at HV HK HF HS ⊢
    have p0 := HV.out.cell.1
    have p1 := HK.out.cell.1
    refine leaves_cons (f := 26) (args := #[.pointer (some ⟨w.heap.size, 0, none⟩), .pointer (some ⟨w.heap.size + 1, 0, none⟩)]) (by simp) (by simp [go_sem]) ?_
    refine (exec_ended.d_ret w.heap.size (w.heap.size + 1) w10).mono ?_
    rintro e u' w'' ⟨rfl, rfl, rfl⟩
    simp [Leaves, settle, results, Try.results17, go_sem, p0, p1]
    exact ⟨⟨rfl, rfl⟩, _, HS.out, HF.out⟩
  | trap =>
    dsimp only [Ex.ending] at HC
    go_wp2_with (go_at_fn g; refine HC.out.mono ?_; rintro e w9 ⟨rfl, tv9, hs9, hf9⟩; have HV : Aside0 (Ex.Int1 w9 w.heap.size 0) := ⟨(hf9.f w.heap.size (by omega) (by omega) (fun e => Nat.lt_irrefl _ (HOWN.out _ e))).trans HV.out⟩; have HK : Aside0 (Ex.Int1 w9 (w.heap.size + 1) 0) := ⟨(hf9.f (w.heap.size + 1) (by omega) (by omega) (fun e => by have := HOWN.out _ e; omega)).trans HK.out⟩; have HF := Aside0.mk (HF.out.trans hf9); have HS := Aside0.mk hs9; have HO9 := Aside0.mk hf9.g; clear hs9 hf9)
    have hv9 : some w.heap.size ≠ tv9.ownBlock := fun e => by
      rcases HO9.out _ e with q | q
      · exact Nat.lt_irrefl _ (HOWN.out _ q)
      · omega
    have hk9 : some (w.heap.size + 1) ≠ tv9.ownBlock := fun e => by
      rcases HO9.out _ e with q | q
      · have := HOWN.out _ q
        omega
      · omega
    refine leaves_cons (f := 26) (args := #[.pointer (some ⟨w.heap.size, 0, none⟩), .pointer (some ⟨w.heap.size + 1, 0, none⟩)]) (by simp) (by simp [go_sem]) ?_
    refine (exec_ended.d_panic w.heap.size (w.heap.size + 1) 2 0 0 w9 HV.out HK.out (by omega)).mono ?_
    rintro e u' w'' ⟨rfl, rfl, h1, h2, OF⟩
    have HF := Aside0.mk (Ex.Fr.off2 HF.out OF (Nat.le_refl _) (Nat.le_succ _) hb (by omega) HS.out.hb)
    have HS := Aside0.mk (HS.out.off2 OF (by omega) (by omega) hv9 hk9)
    have p0 := h1.cell.1
    have p1 := h2.cell.1
    clear OF h1 h2
    simp [Leaves, settle, results, Try.results17, go_sem, p0, p1, exec_ended.pk]
    exact ⟨⟨rfl, rfl⟩, _, HS.out, HF.out⟩
  | out =>
    dsimp only [Ex.ending] at HC
    go_wp2_with (go_at_fn g; refine HC.out.mono ?_; rintro e w9 ⟨rfl, tv9, hs9, hf9⟩; have HV : Aside0 (Ex.Int1 w9 w.heap.size 0) := ⟨(hf9.f w.heap.size (by omega) (by omega) (fun e => Nat.lt_irrefl _ (HOWN.out _ e))).trans HV.out⟩; have HK : Aside0 (Ex.Int1 w9 (w.heap.size + 1) 0) := ⟨(hf9.f (w.heap.size + 1) (by omega) (by omega) (fun e => by have := HOWN.out _ e; omega)).trans HK.out⟩; have HF := Aside0.mk (HF.out.trans hf9); have HS := Aside0.mk hs9; have HO9 := Aside0.mk hf9.g; clear hs9 hf9)
    have hv9 : some w.heap.size ≠ tv9.ownBlock := fun e => by
      rcases HO9.out _ e with q | q
      · exact Nat.lt_irrefl _ (HOWN.out _ q)
      · omega
    have hk9 : some (w.heap.size + 1) ≠ tv9.ownBlock := fun e => by
      rcases HO9.out _ e with q | q
      · have := HOWN.out _ q
        omega
      · omega
    refine leaves_cons (f := 26) (args := #[.pointer (some ⟨w.heap.size, 0, none⟩), .pointer (some ⟨w.heap.size + 1, 0, none⟩)]) (by simp) (by simp [go_sem]) ?_
    refine (exec_ended.d_panic w.heap.size (w.heap.size + 1) 3 0 0 w9 HV.out HK.out (by omega)).mono ?_
    rintro e u' w'' ⟨rfl, rfl, h1, h2, OF⟩
    have HF := Aside0.mk (Ex.Fr.off2 HF.out OF (Nat.le_refl _) (Nat.le_succ _) hb (by omega) HS.out.hb)
    have HS := Aside0.mk (HS.out.off2 OF (by omega) (by omega) hv9 hk9)
    have p0 := h1.cell.1
    have p1 := h2.cell.1
    clear OF h1 h2
    simp [Leaves, settle, results, Try.results17, go_sem, p0, p1, exec_ended.pk]
    exact ⟨⟨rfl, rfl⟩, _, HS.out, HF.out⟩

/-! ### slices_Clone_int_int: function 20 (by hand) -/
def slices_Clone_int_int.f (l0 : List (Int)) : Option (List (Int)) := if l0.length < 17592186044416 then some l0 else none
theorem slices_Clone_int_int.calls (A0 : Option Addr) (c0 : Nat) (l0 : List (Int)) (r : List (Int)) (w : World) (hr0 : Kd.C (Kd.int .i64) w A0 l0.length l0) (hc0 : l0.length ≤ c0) (h : slices_Clone_int_int.f l0 = some r) :
    Calls Try.prog 20 #[.slice A0 l0.length c0] w fun e w' => ∃ v0_ : Value, e = .returned (v0_) ∧ Kd.R (Kd.int .i64) 3 w' w.heap.size (fun _ => True) v0_ r ∧ Below w.heap.size w w' := by
  have hl : l0.length < 17592186044416 := by
    unfold slices_Clone_int_int.f at h
    split at h
    · assumption
    · cases h
  obtain rfl : l0 = r := by
    unfold slices_Clone_int_int.f at h
    rw [if_pos hl] at h
    exact Option.some.inj h
  clear h
  have hu := Try.underlying26
  have he := fun (W : World) => Lib.run_eql_slice_nil (P := Try.prog) W 26 3 A0 l0.length c0 0 0 Try.underlying26
  cases A0 with
  | none =>
    obtain rfl : l0 = [] := by
      rcases Nat.eq_zero_or_pos l0.length with h0 | h0
      · exact List.eq_nil_of_length_eq_zero h0
      · obtain ⟨ad, h1, _⟩ := hr0.2.2 h0
        cases h1
    clear hr0
    simp only [List.length_nil] at he hc0 ⊢
    go_enter Try.func20, Try.ntmps20
    go_wp2
    go_ret
    exact ⟨_, rfl, Kd.R_nil _ _ _ _ _, Below.refl _ _⟩
  | some ad =>
    have HR := Aside0.mk hr0
    clear hr0
    go_enter Try.func20, Try.ntmps20
    have HB := Aside0.mk (Below.refl w.heap.size w)
    go_wp2_with (first | ((with_reducible refine gate_dst (N := 5) rfl ?_); refine Kd.R_lit (Kd.int .i64) _ 3 ?hg (N := 5) ?hd (xs := ([] : List (Int))) (inner := []) (ok := fun _ => True) (okp := fun _ => True) ?hr ?hp (fun _ hk => hk) trivial (Below.refl _ _) (Nat.le_refl _) (by simp) ?_; (case hd => rfl); (case hg => rfl); (case hr => first | (go_simp; done) | (go_simp; rfl)); (case hp => exact (Reps.none _ _)); intro v5 w3 ho4 hb hg_ hnew_; clear hg_ hnew_; have HO := Aside0.mk ho4; have HC := Aside0.mk (Kd.C_below HR.out hb); have HB1 := Aside0.mk hb; clear ho4 hb HB HR) | ((with_reducible refine gate_builtin (b := .append) (xs := #[.tmp 5, .tmp 6]) rfl ?_); at_builtin; refine Kd.R_append_rows (Kd.int .i64) (w0 := w) w.heap.size rfl (.tmp 5) (.tmp 6) 26 3 (.int .i64 0) 8 rfl Try.underlying26 info3 rfl (by decide) (by omega) v5 ([] : List (Int)) l0 _ _ _ (fun _ => True) (fun _ => False) rfl rfl ?aO ?aR (fun _ _ h => h) ?aK ?aF ?aB ?aS ?aL ?_; (case aO => exact HO.out); (case aR => exact HC.out); (case aK => exact fun _ h => h.elim); (case aF => exact fun _ _ => trivial); (case aB => exact HB1.out); (case aS => exact HB1.out.size); (case aL => simp; omega); intro v7 w7 ho7 hb7 hg7 hat7; clear HC HO HB1))
    go_ret
    rw [List.nil_append] at ho7
    exact ⟨_, rfl, ho7, hb7⟩

/-! ### api_Code: function 27 (by hand) -/
theorem api_Code.ix_hit (nm : ByteArray) (l : List Ex.Cd) (i : Nat) (h : i < l.length) (hp : (l.getD i Ex.zC).name = nm) (hn : ∀ j, j < i → ¬ (l.getD j Ex.zC).name = nm) : Ex.ix l nm = (i : Int) := by
  have e : l.findIdx? (fun f => decide (f.name = nm)) = some i := by
    rw [List.findIdx?_eq_some_iff_getElem]
    refine ⟨h, ?_, fun j hj => ?_⟩
    · rw [List.getD_eq_getElem?_getD, List.getElem?_eq_getElem h] at hp
      exact decide_eq_true hp
    · have := hn j hj
      rw [List.getD_eq_getElem?_getD, List.getElem?_eq_getElem (by omega)] at this
      exact fun q => this (of_decide_eq_true q)
  unfold Ex.ix
  rw [e]
theorem api_Code.ix_miss (nm : ByteArray) (l : List Ex.Cd) (hn : ∀ j, j < l.length → ¬ (l.getD j Ex.zC).name = nm) : Ex.ix l nm = -1 := by
  have e : l.findIdx? (fun f => decide (f.name = nm)) = none := by
    rw [List.findIdx?_eq_none_iff]
    intro x hx
    obtain ⟨j, hj, rfl⟩ := List.getElem_of_mem hx
    have := hn j hj
    rw [List.getD_eq_getElem?_getD, List.getElem?_eq_getElem hj] at this
    exact decide_eq_false this
  unfold Ex.ix
  rw [e]
set_option maxHeartbeats 2000000 in
theorem api_Code.callsP (nm : ByteArray) (g : Nat) (lb : Array Value) (eg : ∀ args w, (callFunc g args).run Try.prog w = .ok (.enter g args) w) (A0 : Option Addr) (c0 : Nat) (l0 : List Ex.Cd) (w : World) (hr0 : Ex.kC.C w A0 l0.length l0) (hc0 : l0.length ≤ c0)
    (hp : ∀ (W : World) (x : Ex.Cd) (cs : List Value), Ex.kC.K W x cs → Below w.heap.size w W → Calls Try.prog g (#[.agg cs.toArray] ++ lb) W fun e w' => e = .returned (.bool (decide (x.name = nm))) ∧ Below W.heap.size W w') :
    Calls Try.prog 27 #[.slice A0 l0.length c0, .func (.func g) #[] lb] w fun e w' => e = .returned (.int .i64 (Ex.ix l0 nm)) ∧ Below w.heap.size w w' := by
  have HR := Aside0.mk hr0
  have HP := Aside0.mk hp
  have hmax : l0.length ≤ 9223372036854775807 := hr0.2.1
  clear hr0 hp
  go_enter Try.func27, Try.ntmps27
  go_wp2
  go_loopg [5, 8] l0.length (fun gg _ s8 wr => ∃ kk : Nat, kk ≤ l0.length ∧ l0.length - kk ≤ gg ∧ s8 = .int .i64 kk ∧ Aside0 (Below w.heap.size w wr) ∧ Aside0 (∀ j, j < kk → ¬ (l0.getD j Ex.zC).name = nm))
  case atStart => exact ⟨0, Nat.zero_le _, by omega, rfl, ⟨Below.refl _ w⟩, ⟨fun j h => absurd h (Nat.not_lt_zero _)⟩⟩
  case round =>
    obtain ⟨kk, hkk, hg, rfl, BW, AF⟩ := hrel
    by_cases hlt : kk < l0.length
    · have hltz : (kk : Int) < (l0.length : Int) := by omega
      have h0z : (0 : Int) ≤ (kk : Int) := by omega
      obtain ⟨ad, Ab, cb, rfl, k0, k1, k2, k3, k4, hl, hC⟩ := Ex.at_C (Kd.C_below HR.out BW.out) kk hlt
      have hcall := HP.out wr _ _ (Ex.mk_C hl hC) BW.out
      have AF2 : Aside0 (¬ (l0.getD kk Ex.zC).name = nm → ∀ j, j < kk + 1 → ¬ (l0.getD j Ex.zC).name = nm) := ⟨fun q j h => by
        by_cases e : j = kk
        · subst e
          exact q
        · exact AF.out j (by omega)⟩
      have AF3 : Aside0 ((l0.getD kk Ex.zC).name = nm → Ex.ix l0 nm = (kk : Int)) := ⟨fun q => api_Code.ix_hit nm l0 kk hlt q AF.out⟩
      clear hl hC
      generalize l0.getD kk Ex.zC = X at hcall AF2 AF3 k0 k1 k2 k3 k4
      by_cases hq : X.name = nm
      · rw [decide_eq_true hq] at hcall
        have e3 := Lib.hid (AF3.out hq)
        clear AF3 hq
        go_wp2_with (go_at_fn g; refine hcall.mono ?_; rintro e w' ⟨rfl, hb'⟩)
        go_ret
        refine ⟨?_, below_step BW.out hb'⟩
        rw [e3.out]
        rfl
      · rw [decide_eq_false hq] at hcall
        have e3 := Aside0.mk (AF2.out hq)
        clear AF2 AF3 hq
        go_wp2_with (go_at_fn g; refine hcall.mono ?_; rintro e w' ⟨rfl, hb'⟩)
        go_roundg (l0.length - (kk + 1))
        case measure => omega
        case rel => exact ⟨kk + 1, by omega, by omega, by go_num, ⟨below_step BW.out hb'⟩, e3⟩
    · have hltz : ¬ (kk : Int) < (l0.length : Int) := by omega
      go_wp2
      go_ret
      refine ⟨?_, BW.out⟩
      rw [api_Code.ix_miss nm l0 (fun j hj => AF.out j (by omega))]
      rfl

-- NOT PRINTED: function 28 (exec_machine_call_1)

/-! ### exec_clean: function 29 (by hand) -/
def exec_clean.Q (k : Nat) : List Int := List.replicate k 48879 ++ List.replicate (80 - k) 0
theorem exec_clean.Q_len (k : Nat) (h : k ≤ 80) : (exec_clean.Q k).length = 80 := by
  unfold exec_clean.Q
  rw [List.length_append, List.length_replicate, List.length_replicate]
  omega
theorem exec_clean.Q_set (k : Nat) (h : k < 80) : (exec_clean.Q k).set k 48879 = exec_clean.Q (k + 1) := by
  unfold exec_clean.Q
  have e : 80 - k = (80 - (k + 1)) + 1 := by omega
  rw [e, List.replicate_succ, List.set_append_right _ _ (by rw [List.length_replicate]; exact Nat.le_refl _), List.length_replicate, Nat.sub_self, List.set_cons_zero, List.replicate_succ', List.append_assoc]
  rfl
def exec_clean.A (k : Nat) : Array Value := ((exec_clean.Q k).map (Value.int .i64)).toArray
theorem exec_clean.A_size (k : Nat) (h : k ≤ 80) : (exec_clean.A k).size = 80 := by
  unfold exec_clean.A
  rw [List.size_toArray, List.length_map, exec_clean.Q_len k h]
theorem exec_clean.A_set (k : Nat) (h : k < 80) : (exec_clean.A k).setIfInBounds k (.int .i64 48879) = exec_clean.A (k + 1) := by
  unfold exec_clean.A
  rw [List.setIfInBounds_toArray, ← List.map_set, exec_clean.Q_set k h]
theorem exec_clean.A_all : (exec_clean.A 80).all (·.oneCell') = true := by
  refine all_oneCell_toArray (fun v hv => ?_)
  obtain ⟨x, _, rfl⟩ := List.mem_map.1 hv
  rfl
def exec_clean.Bk (W : World) (b k : Nat) : Prop := W.heap[b]? = some (.cells (exec_clean.A k) 77 (0, 0))
theorem exec_clean.Bk.cell {W : World} {b k : Nat} (h : exec_clean.Bk W b k) (hk : k < 80) : (∃ u, W.cell? ⟨b, k, none⟩ = some u) ∧ W.frozen? ⟨b, k, none⟩ = false := by
  refine ⟨?_, by simp only [World.frozen?]; rw [show W.heap[b]? = _ from h]; rfl⟩
  rw [cell_of_row W b k _ _ _ h, Array.getElem?_eq_getElem (by rw [exec_clean.A_size k (by omega)]; exact hk)]
  exact ⟨_, rfl⟩
theorem exec_clean.Bk.set {W : World} {b k : Nat} (h : exec_clean.Bk W b k) (hk : k < 80) : exec_clean.Bk (W.setCell ⟨b, k, none⟩ (.int .i64 48879)) b (k + 1) := by
  have := blk_set h k (.int .i64 48879)
  rw [exec_clean.A_set k hk] at this
  exact this
theorem exec_clean.size : (Try.prog.info? 77).map (·.size) = some 80 := by kernel_rfl
theorem exec_clean.A80 : exec_clean.A 80 = Ex.F0 := by rfl
set_option maxHeartbeats 4000000 in
set_option maxRecDepth 100000 in
theorem exec_clean.calls (w : World) : Calls Try.prog 29 #[] w fun e w' => e = .returned (.agg Ex.F0) ∧ Below w.heap.size w w' := by
  have hz : ∀ w : World, (zeroValue 77).run Try.prog w = .ok (.agg (exec_clean.A 0)) w := fun w => by kernel_rfl
  have hzs := exec_clean.A_size 0 (by decide)
  go_enter Try.func29, Try.ntmps29
  go_wp2_with (fail)
  have HB1 : Aside0 (exec_clean.Bk ((w.alloc (.cells (exec_clean.A 0) 77)).alloc (.cells (exec_clean.A 0) 77)) (w.heap.size + 1) 0) := ⟨Hw.blk_nw1 w _ _⟩
  have HB0 : Aside0 (((w.alloc (.cells (exec_clean.A 0) 77)).alloc (.cells (exec_clean.A 0) 77)).heap[w.heap.size]? = some (.cells (exec_clean.A 0) 77)) := ⟨Hw.blk_al (Hw.blk_nw w _) _⟩
  have HB := Aside0.mk (((Below.refl w.heap.size w).alloc (Nat.le_refl _) (.cells (exec_clean.A 0) 77)).alloc (by simp) (.cells (exec_clean.A 0) 77))
  generalize (w.alloc (.cells (exec_clean.A 0) 77)).alloc (.cells (exec_clean.A 0) 77) = W1 at HB0 HB1 HB ⊢
  clear hz hzs
  go_loopg [4] 16 (fun gg v4 wq => ∃ k : Nat, v4 = .int .i64 (k : Int) ∧ k ≤ 16 ∧ 16 - k ≤ gg ∧ Aside0 (exec_clean.Bk wq (w.heap.size + 1) k) ∧ Aside0 (wq.heap[w.heap.size]? = some (.cells (exec_clean.A 0) 77)) ∧ Aside0 (Below w.heap.size w wq))
  case atStart => exact ⟨0, rfl, by decide, by decide, HB1, HB0, HB⟩
  case round =>
    clear HB0 HB1 HB
    obtain ⟨k, rfl, hk, hgg, HB1, HB0, HB⟩ := hrel
    by_cases hkl : k < 16
    · obtain ⟨gk, rfl⟩ : ∃ q, gk = q + 1 := by
        cases gk with
        | zero => omega
        | succ q => exact ⟨q, rfl⟩
      have z1 : (k : Int) < 16 := by omega
      obtain ⟨⟨u, k0⟩, k1⟩ := HB1.out.cell (by omega)
      go_wp2_with (fail)
      go_roundg gk
      case measure => omega
      case rel => exact ⟨k + 1, by go_num, by omega, by omega, ⟨HB1.out.set (by omega)⟩, ⟨(Below.heap_setCell _ _ _ _ (by show w.heap.size ≠ w.heap.size + 1; omega)).trans HB0.out⟩, ⟨HB.out.setCell (by show w.heap.size ≤ w.heap.size + 1; omega) _⟩⟩
    · have hk16 : k = 16 := by omega
      subst hk16
      have z1 : ¬ (((16 : Nat) : Int) < 16) := by decide
      go_wp2_with (fail)
      go_loopg [11] 64 (fun gg v11 wq => ∃ k : Nat, v11 = .int .i64 (k : Int) ∧ k ≤ 64 ∧ 64 - k ≤ gg ∧ Aside0 (exec_clean.Bk wq (w.heap.size + 1) (16 + k)) ∧ Aside0 (wq.heap[w.heap.size]? = some (.cells (exec_clean.A 0) 77)) ∧ Aside0 (Below w.heap.size w wq))
      case atStart => exact ⟨0, rfl, by decide, by decide, HB1, HB0, HB⟩
      case round =>
        clear HB0 HB1 HB
        obtain ⟨k, rfl, hk, hgg, HB1, HB0, HB⟩ := hrel
        by_cases hkl : k < 64
        · obtain ⟨gk, rfl⟩ : ∃ q, gk = q + 1 := by
            cases gk with
            | zero => omega
            | succ q => exact ⟨q, rfl⟩
          have z1 : (k : Int) < 64 := by omega
          obtain ⟨⟨u, k0⟩, k1⟩ := HB1.out.cell (by omega)
          go_wp2_with (fail)
          go_roundg gk
          case measure => omega
          case rel => exact ⟨k + 1, by go_num, by omega, by omega, ⟨HB1.out.set (by omega)⟩, ⟨(Below.heap_setCell _ _ _ _ (by show w.heap.size ≠ w.heap.size + 1; omega)).trans HB0.out⟩, ⟨HB.out.setCell (by show w.heap.size ≤ w.heap.size + 1; omega) _⟩⟩
        · have hk64 : k = 64 := by omega
          subst hk64
          have z1 : ¬ (((64 : Nat) : Int) < 64) := by decide
          have hs80 := exec_clean.A_size 80 (by decide)
          have hsz : (Try.prog.info? 77).map (·.size) = some (exec_clean.A 80).size := by rw [hs80]; exact exec_clean.size
          have hs08 : (exec_clean.A 0).size = (exec_clean.A 80).size := by rw [hs80]; exact exec_clean.A_size 0 (by decide)
          have HSZ := Lib.hid hsz
          have HS08 := Lib.hid hs08
          have OB := Aside0.mk (setRow_heap wr w.heap.size (exec_clean.A 0) (exec_clean.A 80) 77 (0, 0) HB0.out)
          clear hsz hs08 hs80
          go_upto_region 12 with fail
          refine wp_region_list ?_
          refine wpList_load_row rfl 77 _ rfl (w.heap.size + 1) rfl 77 (exec_clean.A 80) (0, 0) _ HB1.out Try.underlying77 rfl HSZ.out ?_
          refine wpList_store_row rfl 77 _ _ rfl w.heap.size (exec_clean.A 80) rfl rfl 77 (exec_clean.A 0) HB0.out HSZ.out HS08.out exec_clean.A_all ?_
          go_wp2_with (fail)
          refine bodyPost_ret (results_cell_row rfl _ _ w.heap.size 77 (exec_clean.A 80) (0, 0) _ rfl OB.out Try.underlying77 rfl HSZ.out) rfl ⟨?_, ?_⟩
          · rw [exec_clean.A80]
          · have e := HB.out
            refine ⟨e.os, e.tape, e.output, ?_, fun i hi => ?_⟩
            · simpa [World.setRow] using e.size
            · rw [← e.block i hi]
              simp only [World.setRow]
              rw [Array.getElem?_modify, if_neg (by omega)]

/-! ### run_Op: function 41 -/
def run_Op.f (a0 : Int) (a1 : Int) (a2 : Int) : Option (Int × Bool) := (run_Word.f a1).bind fun t103 => ((run_Word.f a2).bind fun t104 => (if a0 = 3 then ((run_Word.f (wrap64 (t103 + t104))).bind fun t105 => (some (t105, true))) else (if a0 = 4 then ((run_Word.f (wrap64 (t103 - t104))).bind fun t106 => (some (t106, true))) else (if a0 = 5 then ((run_Word.f (wrap64 (t103 * t104))).bind fun t107 => (some (t107, true))) else (if a0 = 6 then (if t103 < t104 then (some (1, true)) else (some (0, true))) else (if a0 = 7 then (if t104 = 0 then (some (0, false)) else (some (wrap64 (Int.tdiv t103 t104), true))) else (some (0, false))))))))
set_option maxHeartbeats 8000000 in
set_option maxRecDepth 100000 in
theorem run_Op.calls (a0 : Int) (a1 : Int) (a2 : Int) (r1 : Int) (r2 : Bool) (w : World) (h : run_Op.f a0 a1 a2 = some (r1, r2)) :
    Calls Try.prog 41 #[.int .i64 a0, .int .i64 a1, .int .i64 a2] w fun e w' => e = .returned (.tuple #[.int .i64 r1, .bool r2]) ∧ Drawn0 w w' := by
  have H : ((run_Word.f a1).bind fun t103 => ((run_Word.f a2).bind fun t104 => (if a0 = 3 then ((run_Word.f (wrap64 (t103 + t104))).bind fun t105 => (some (t105, true))) else (if a0 = 4 then ((run_Word.f (wrap64 (t103 - t104))).bind fun t106 => (some (t106, true))) else (if a0 = 5 then ((run_Word.f (wrap64 (t103 * t104))).bind fun t107 => (some (t107, true))) else (if a0 = 6 then (if t103 < t104 then (some (1, true)) else (some (0, true))) else (if a0 = 7 then (if t104 = 0 then (some (0, false)) else (some (wrap64 (Int.tdiv t103 t104), true))) else (some (0, false))))))))) = some (r1, r2) := h
  clear h
  replace H := Option.bind_eq_some_iff.mp H
  obtain ⟨t103, A40, H⟩ := H
  replace H : ((run_Word.f a2).bind fun t104 => (if a0 = 3 then ((run_Word.f (wrap64 (t103 + t104))).bind fun t105 => (some (t105, true))) else (if a0 = 4 then ((run_Word.f (wrap64 (t103 - t104))).bind fun t106 => (some (t106, true))) else (if a0 = 5 then ((run_Word.f (wrap64 (t103 * t104))).bind fun t107 => (some (t107, true))) else (if a0 = 6 then (if t103 < t104 then (some (1, true)) else (some (0, true))) else (if a0 = 7 then (if t104 = 0 then (some (0, false)) else (some (wrap64 (Int.tdiv t103 t104), true))) else (some (0, false)))))))) = some (r1, r2) := H
  have A4 := Aside0.mk A40
  clear A40
  replace H := Option.bind_eq_some_iff.mp H
  obtain ⟨t104, A50, H⟩ := H
  replace H : (if a0 = 3 then ((run_Word.f (wrap64 (t103 + t104))).bind fun t105 => (some (t105, true))) else (if a0 = 4 then ((run_Word.f (wrap64 (t103 - t104))).bind fun t106 => (some (t106, true))) else (if a0 = 5 then ((run_Word.f (wrap64 (t103 * t104))).bind fun t107 => (some (t107, true))) else (if a0 = 6 then (if t103 < t104 then (some (1, true)) else (some (0, true))) else (if a0 = 7 then (if t104 = 0 then (some (0, false)) else (some (wrap64 (Int.tdiv t103 t104), true))) else (some (0, false))))))) = some (r1, r2) := H
  have A5 := Aside0.mk A50
  clear A50
  by_cases c6 : a0 = 3
  · rw [if_pos c6] at H
    have c6b0 : (a0 == 3) = true := beq_iff_eq.mpr c6
    have c6b1 : (a0 != 3) = false := bne_eq_false_iff_eq.mpr c6
    clear c6
    replace H := Option.bind_eq_some_iff.mp H
    obtain ⟨t105, A70, H⟩ := H
    replace H : (some (t105, true)) = some (r1, r2) := H
    have A7 := Aside0.mk A70
    clear A70
    simp only [Option.some.injEq, Prod.mk.injEq] at H
    obtain ⟨rfl, rfl⟩ := H
    go_enter Try.func41, Try.ntmps41
    go_wp2_with (first | ((with_reducible refine gate_callee (f := 16) rfl ?_); refine goesL_ (some 9) rfl rfl Try.func16 (by kernel_rfl) rfl #[.int .i64 a1] rfl (by (try simp only [List.map_toArray, List.map_cons, List.map_nil]); first | done | rfl | (simp only [List.length_drop, List.length_take]; rfl)) ?_; (with_reducible refine (run_Word.calls a1 t103 _ A4.out).mono ?_); rintro e w' ⟨rfl, ⟨nd, rfl⟩⟩; refine ⟨_, rfl, ?_⟩) | ((with_reducible refine gate_callee (f := 16) rfl ?_); refine goesL_ (some 11) rfl rfl Try.func16 (by kernel_rfl) rfl #[.int .i64 a2] rfl (by (try simp only [List.map_toArray, List.map_cons, List.map_nil]); first | done | rfl | (simp only [List.length_drop, List.length_take]; rfl)) ?_; (with_reducible refine (run_Word.calls a2 t104 _ A5.out).mono ?_); rintro e w' ⟨rfl, ⟨nd, rfl⟩⟩; refine ⟨_, rfl, ?_⟩) | ((with_reducible refine gate_callee (f := 16) rfl ?_); refine goesL_ (some 18) rfl rfl Try.func16 (by kernel_rfl) rfl #[.int .i64 (wrap64 (t103 + t104))] rfl (by (try simp only [List.map_toArray, List.map_cons, List.map_nil]); first | done | rfl | (simp only [List.length_drop, List.length_take]; rfl)) ?_; (with_reducible refine (run_Word.calls (wrap64 (t103 + t104)) t105 _ A7.out).mono ?_); rintro e w' ⟨rfl, ⟨nd, rfl⟩⟩; refine ⟨_, rfl, ?_⟩))
    go_ret2
    exact ⟨by first | rfl | (simp; done) | (simp [*]; done), by repeat (first | exact Drawn0.refl _ | apply Drawn0.step)⟩
  · rw [if_neg c6] at H
    have c6b0 : (a0 == 3) = false := beq_eq_false_iff_ne.mpr c6
    have c6b1 : (a0 != 3) = true := bne_iff_ne.mpr c6
    by_cases c8 : a0 = 4
    · rw [if_pos c8] at H
      have c8b0 : (a0 == 4) = true := beq_iff_eq.mpr c8
      have c8b1 : (a0 != 4) = false := bne_eq_false_iff_eq.mpr c8
      clear c8
      replace H := Option.bind_eq_some_iff.mp H
      obtain ⟨t106, A90, H⟩ := H
      replace H : (some (t106, true)) = some (r1, r2) := H
      have A9 := Aside0.mk A90
      clear A90
      simp only [Option.some.injEq, Prod.mk.injEq] at H
      obtain ⟨rfl, rfl⟩ := H
      go_enter Try.func41, Try.ntmps41
      go_wp2_with (first | ((with_reducible refine gate_callee (f := 16) rfl ?_); refine goesL_ (some 9) rfl rfl Try.func16 (by kernel_rfl) rfl #[.int .i64 a1] rfl (by (try simp only [List.map_toArray, List.map_cons, List.map_nil]); first | done | rfl | (simp only [List.length_drop, List.length_take]; rfl)) ?_; (with_reducible refine (run_Word.calls a1 t103 _ A4.out).mono ?_); rintro e w' ⟨rfl, ⟨nd, rfl⟩⟩; refine ⟨_, rfl, ?_⟩) | ((with_reducible refine gate_callee (f := 16) rfl ?_); refine goesL_ (some 11) rfl rfl Try.func16 (by kernel_rfl) rfl #[.int .i64 a2] rfl (by (try simp only [List.map_toArray, List.map_cons, List.map_nil]); first | done | rfl | (simp only [List.length_drop, List.length_take]; rfl)) ?_; (with_reducible refine (run_Word.calls a2 t104 _ A5.out).mono ?_); rintro e w' ⟨rfl, ⟨nd, rfl⟩⟩; refine ⟨_, rfl, ?_⟩) | ((with_reducible refine gate_callee (f := 16) rfl ?_); refine goesL_ (some 24) rfl rfl Try.func16 (by kernel_rfl) rfl #[.int .i64 (wrap64 (t103 - t104))] rfl (by (try simp only [List.map_toArray, List.map_cons, List.map_nil]); first | done | rfl | (simp only [List.length_drop, List.length_take]; rfl)) ?_; (with_reducible refine (run_Word.calls (wrap64 (t103 - t104)) t106 _ A9.out).mono ?_); rintro e w' ⟨rfl, ⟨nd, rfl⟩⟩; refine ⟨_, rfl, ?_⟩))
      go_ret2
      exact ⟨by first | rfl | (simp; done) | (simp [*]; done), by repeat (first | exact Drawn0.refl _ | apply Drawn0.step)⟩
    · rw [if_neg c8] at H
      have c8b0 : (a0 == 4) = false := beq_eq_false_iff_ne.mpr c8
      have c8b1 : (a0 != 4) = true := bne_iff_ne.mpr c8
      by_cases c10 : a0 = 5
      · rw [if_pos c10] at H
        have c10b0 : (a0 == 5) = true := beq_iff_eq.mpr c10
        have c10b1 : (a0 != 5) = false := bne_eq_false_iff_eq.mpr c10
        clear c10
        replace H := Option.bind_eq_some_iff.mp H
        obtain ⟨t107, A110, H⟩ := H
        replace H : (some (t107, true)) = some (r1, r2) := H
        have A11 := Aside0.mk A110
        clear A110
        simp only [Option.some.injEq, Prod.mk.injEq] at H
        obtain ⟨rfl, rfl⟩ := H
        go_enter Try.func41, Try.ntmps41
        go_wp2_with (first | ((with_reducible refine gate_callee (f := 16) rfl ?_); refine goesL_ (some 9) rfl rfl Try.func16 (by kernel_rfl) rfl #[.int .i64 a1] rfl (by (try simp only [List.map_toArray, List.map_cons, List.map_nil]); first | done | rfl | (simp only [List.length_drop, List.length_take]; rfl)) ?_; (with_reducible refine (run_Word.calls a1 t103 _ A4.out).mono ?_); rintro e w' ⟨rfl, ⟨nd, rfl⟩⟩; refine ⟨_, rfl, ?_⟩) | ((with_reducible refine gate_callee (f := 16) rfl ?_); refine goesL_ (some 11) rfl rfl Try.func16 (by kernel_rfl) rfl #[.int .i64 a2] rfl (by (try simp only [List.map_toArray, List.map_cons, List.map_nil]); first | done | rfl | (simp only [List.length_drop, List.length_take]; rfl)) ?_; (with_reducible refine (run_Word.calls a2 t104 _ A5.out).mono ?_); rintro e w' ⟨rfl, ⟨nd, rfl⟩⟩; refine ⟨_, rfl, ?_⟩) | ((with_reducible refine gate_callee (f := 16) rfl ?_); refine goesL_ (some 30) rfl rfl Try.func16 (by kernel_rfl) rfl #[.int .i64 (wrap64 (t103 * t104))] rfl (by (try simp only [List.map_toArray, List.map_cons, List.map_nil]); first | done | rfl | (simp only [List.length_drop, List.length_take]; rfl)) ?_; (with_reducible refine (run_Word.calls (wrap64 (t103 * t104)) t107 _ A11.out).mono ?_); rintro e w' ⟨rfl, ⟨nd, rfl⟩⟩; refine ⟨_, rfl, ?_⟩))
        go_ret2
        exact ⟨by first | rfl | (simp; done) | (simp [*]; done), by repeat (first | exact Drawn0.refl _ | apply Drawn0.step)⟩
      · rw [if_neg c10] at H
        have c10b0 : (a0 == 5) = false := beq_eq_false_iff_ne.mpr c10
        have c10b1 : (a0 != 5) = true := bne_iff_ne.mpr c10
        by_cases c12 : a0 = 6
        · rw [if_pos c12] at H
          have c12b0 : (a0 == 6) = true := beq_iff_eq.mpr c12
          have c12b1 : (a0 != 6) = false := bne_eq_false_iff_eq.mpr c12
          clear c12
          by_cases c13 : t103 < t104
          · rw [if_pos c13] at H
            have c13b0 : decide (t103 < t104) = true := decide_eq_true c13
            clear c13
            simp only [Option.some.injEq, Prod.mk.injEq] at H
            obtain ⟨rfl, rfl⟩ := H
            go_enter Try.func41, Try.ntmps41
            go_wp2_with (first | ((with_reducible refine gate_callee (f := 16) rfl ?_); refine goesL_ (some 9) rfl rfl Try.func16 (by kernel_rfl) rfl #[.int .i64 a1] rfl (by (try simp only [List.map_toArray, List.map_cons, List.map_nil]); first | done | rfl | (simp only [List.length_drop, List.length_take]; rfl)) ?_; (with_reducible refine (run_Word.calls a1 t103 _ A4.out).mono ?_); rintro e w' ⟨rfl, ⟨nd, rfl⟩⟩; refine ⟨_, rfl, ?_⟩) | ((with_reducible refine gate_callee (f := 16) rfl ?_); refine goesL_ (some 11) rfl rfl Try.func16 (by kernel_rfl) rfl #[.int .i64 a2] rfl (by (try simp only [List.map_toArray, List.map_cons, List.map_nil]); first | done | rfl | (simp only [List.length_drop, List.length_take]; rfl)) ?_; (with_reducible refine (run_Word.calls a2 t104 _ A5.out).mono ?_); rintro e w' ⟨rfl, ⟨nd, rfl⟩⟩; refine ⟨_, rfl, ?_⟩))
            go_ret2
            exact ⟨by first | rfl | (simp; done) | (simp [*]; done), by repeat (first | exact Drawn0.refl _ | apply Drawn0.step)⟩
          · rw [if_neg c13] at H
            have c13b0 : decide (t103 < t104) = false := decide_eq_false c13
            clear c13
            simp only [Option.some.injEq, Prod.mk.injEq] at H
            obtain ⟨rfl, rfl⟩ := H
            go_enter Try.func41, Try.ntmps41
            go_wp2_with (first | ((with_reducible refine gate_callee (f := 16) rfl ?_); refine goesL_ (some 9) rfl rfl Try.func16 (by kernel_rfl) rfl #[.int .i64 a1] rfl (by (try simp only [List.map_toArray, List.map_cons, List.map_nil]); first | done | rfl | (simp only [List.length_drop, List.length_take]; rfl)) ?_; (with_reducible refine (run_Word.calls a1 t103 _ A4.out).mono ?_); rintro e w' ⟨rfl, ⟨nd, rfl⟩⟩; refine ⟨_, rfl, ?_⟩) | ((with_reducible refine gate_callee (f := 16) rfl ?_); refine goesL_ (some 11) rfl rfl Try.func16 (by kernel_rfl) rfl #[.int .i64 a2] rfl (by (try simp only [List.map_toArray, List.map_cons, List.map_nil]); first | done | rfl | (simp only [List.length_drop, List.length_take]; rfl)) ?_; (with_reducible refine (run_Word.calls a2 t104 _ A5.out).mono ?_); rintro e w' ⟨rfl, ⟨nd, rfl⟩⟩; refine ⟨_, rfl, ?_⟩))
            go_ret2
            exact ⟨by first | rfl | (simp; done) | (simp [*]; done), by repeat (first | exact Drawn0.refl _ | apply Drawn0.step)⟩
        · rw [if_neg c12] at H
          have c12b0 : (a0 == 6) = false := beq_eq_false_iff_ne.mpr c12
          have c12b1 : (a0 != 6) = true := bne_iff_ne.mpr c12
          by_cases c14 : a0 = 7
          · rw [if_pos c14] at H
            have c14b0 : (a0 == 7) = true := beq_iff_eq.mpr c14
            have c14b1 : (a0 != 7) = false := bne_eq_false_iff_eq.mpr c14
            clear c14
            by_cases c15 : t104 = 0
            · rw [if_pos c15] at H
              have c15b0 : (t104 == 0) = true := beq_iff_eq.mpr c15
              have c15b1 : (t104 != 0) = false := bne_eq_false_iff_eq.mpr c15
              clear c15
              simp only [Option.some.injEq, Prod.mk.injEq] at H
              obtain ⟨rfl, rfl⟩ := H
              go_enter Try.func41, Try.ntmps41
              go_wp2_with (first | ((with_reducible refine gate_callee (f := 16) rfl ?_); refine goesL_ (some 9) rfl rfl Try.func16 (by kernel_rfl) rfl #[.int .i64 a1] rfl (by (try simp only [List.map_toArray, List.map_cons, List.map_nil]); first | done | rfl | (simp only [List.length_drop, List.length_take]; rfl)) ?_; (with_reducible refine (run_Word.calls a1 t103 _ A4.out).mono ?_); rintro e w' ⟨rfl, ⟨nd, rfl⟩⟩; refine ⟨_, rfl, ?_⟩) | ((with_reducible refine gate_callee (f := 16) rfl ?_); refine goesL_ (some 11) rfl rfl Try.func16 (by kernel_rfl) rfl #[.int .i64 a2] rfl (by (try simp only [List.map_toArray, List.map_cons, List.map_nil]); first | done | rfl | (simp only [List.length_drop, List.length_take]; rfl)) ?_; (with_reducible refine (run_Word.calls a2 t104 _ A5.out).mono ?_); rintro e w' ⟨rfl, ⟨nd, rfl⟩⟩; refine ⟨_, rfl, ?_⟩))
              go_ret2
              exact ⟨by first | rfl | (simp; done) | (simp [*]; done), by repeat (first | exact Drawn0.refl _ | apply Drawn0.step)⟩
            · rw [if_neg c15] at H
              have c15b0 : (t104 == 0) = false := beq_eq_false_iff_ne.mpr c15
              have c15b1 : (t104 != 0) = true := bne_iff_ne.mpr c15
              simp only [Option.some.injEq, Prod.mk.injEq] at H
              obtain ⟨rfl, rfl⟩ := H
              go_enter Try.func41, Try.ntmps41
              go_wp2_with (first | ((with_reducible refine gate_callee (f := 16) rfl ?_); refine goesL_ (some 9) rfl rfl Try.func16 (by kernel_rfl) rfl #[.int .i64 a1] rfl (by (try simp only [List.map_toArray, List.map_cons, List.map_nil]); first | done | rfl | (simp only [List.length_drop, List.length_take]; rfl)) ?_; (with_reducible refine (run_Word.calls a1 t103 _ A4.out).mono ?_); rintro e w' ⟨rfl, ⟨nd, rfl⟩⟩; refine ⟨_, rfl, ?_⟩) | ((with_reducible refine gate_callee (f := 16) rfl ?_); refine goesL_ (some 11) rfl rfl Try.func16 (by kernel_rfl) rfl #[.int .i64 a2] rfl (by (try simp only [List.map_toArray, List.map_cons, List.map_nil]); first | done | rfl | (simp only [List.length_drop, List.length_take]; rfl)) ?_; (with_reducible refine (run_Word.calls a2 t104 _ A5.out).mono ?_); rintro e w' ⟨rfl, ⟨nd, rfl⟩⟩; refine ⟨_, rfl, ?_⟩))
              go_ret2
              exact ⟨by first | rfl | (simp; done) | (simp [*]; done), by repeat (first | exact Drawn0.refl _ | apply Drawn0.step)⟩
          · rw [if_neg c14] at H
            have c14b0 : (a0 == 7) = false := beq_eq_false_iff_ne.mpr c14
            have c14b1 : (a0 != 7) = true := bne_iff_ne.mpr c14
            simp only [Option.some.injEq, Prod.mk.injEq] at H
            obtain ⟨rfl, rfl⟩ := H
            go_enter Try.func41, Try.ntmps41
            go_wp2_with (first | ((with_reducible refine gate_callee (f := 16) rfl ?_); refine goesL_ (some 9) rfl rfl Try.func16 (by kernel_rfl) rfl #[.int .i64 a1] rfl (by (try simp only [List.map_toArray, List.map_cons, List.map_nil]); first | done | rfl | (simp only [List.length_drop, List.length_take]; rfl)) ?_; (with_reducible refine (run_Word.calls a1 t103 _ A4.out).mono ?_); rintro e w' ⟨rfl, ⟨nd, rfl⟩⟩; refine ⟨_, rfl, ?_⟩) | ((with_reducible refine gate_callee (f := 16) rfl ?_); refine goesL_ (some 11) rfl rfl Try.func16 (by kernel_rfl) rfl #[.int .i64 a2] rfl (by (try simp only [List.map_toArray, List.map_cons, List.map_nil]); first | done | rfl | (simp only [List.length_drop, List.length_take]; rfl)) ?_; (with_reducible refine (run_Word.calls a2 t104 _ A5.out).mono ?_); rintro e w' ⟨rfl, ⟨nd, rfl⟩⟩; refine ⟨_, rfl, ?_⟩))
            go_ret2
            exact ⟨by first | rfl | (simp; done) | (simp [*]; done), by repeat (first | exact Drawn0.refl _ | apply Drawn0.step)⟩

end Go.Proofs.Ytkjflclkjdbmoaa.PExecSlots

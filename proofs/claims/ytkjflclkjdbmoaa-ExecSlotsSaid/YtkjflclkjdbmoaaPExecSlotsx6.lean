-- By a program of this session (wip/tools/mkprint.py), for this claim.
import Derived.Test.YtkjflclkjdbmoaaPExecSlotsx0
import Derived.Test.YtkjflclkjdbmoaaPExecSlotsx4
import Derived.Test.YtkjflclkjdbmoaaPExecSlotsx5
namespace Go.Proofs.Ytkjflclkjdbmoaa.PExecSlots
open Go.RowKit Go.Proofs.YtkjflclkjdbmoaaW.PrintWords Go.Proofs.YtkjflclkjdbmoaaW.PrintLast Go.Proofs.YtkjflclkjdbmoaaW.PrintMore
attribute [local go_sem] max2_int min2_int max_two min_two max_three min_three max_four min_four   -- for this text's walks alone
set_option linter.unusedVariables false
set_option linter.unusedSimpArgs false

/-! ### exec_machine_call: function 19 (by hand) -/
theorem exec_machine_call.eq_calls (x : Ex.Cd) (cs : List Value) (nm : ByteArray) (p : Addr) (W : World) (hK : Ex.kC.K W x cs) (hn : W.cell? p = some (.string nm)) :
    Calls Try.prog 28 (#[.agg cs.toArray] ++ #[.pointer (some p)]) W fun e w' => e = .returned (.bool (decide (x.name = nm))) ∧ Below W.heap.size W w' := by
  obtain ⟨Ab, cb, rfl, _, _⟩ := Ex.open_C hK
  have hp := Hw.cell_al hn (.cells #[.string x.name, .int .i64 x.params, .int .i64 x.regs, .int .i64 x.slots, .slice Ab x.blocks.length cb] 31)
  have HB := Aside0.mk ((Below.refl W.heap.size W).alloc (Nat.le_refl _) (.cells #[.string x.name, .int .i64 x.params, .int .i64 x.regs, .int .i64 x.slots, .slice Ab x.blocks.length cb] 31))
  have k0 : (W.alloc (.cells #[.string x.name, .int .i64 x.params, .int .i64 x.regs, .int .i64 x.slots, .slice Ab x.blocks.length cb] 31)).cell? ⟨W.heap.size, 0, none⟩ = some (.string x.name) := cell_of_row _ _ 0 _ _ _ (Hw.blk_nw W _)
  clear hn hK
  show Calls Try.prog 28 #[.agg #[.string x.name, .int .i64 x.params, .int .i64 x.regs, .int .i64 x.slots, .slice Ab x.blocks.length cb], .pointer (some p)] W _
  go_enter Try.func28, Try.ntmps28
  go_wp2
  go_ret
  exact ⟨by rw [Rn.str_eq]; rfl, HB.out⟩
theorem exec_machine_call.clone (r : List Int) (na fb : Nat) (s : List Int) (W : World) (h : Ex.Fm W fb r s) (hn : na ≤ 16) : Calls Try.prog 20 #[.slice (some ⟨fb, 0, none⟩) na 16] W fun e w' => ∃ v0_ : Value, e = .returned (v0_) ∧ Kd.R (Kd.int .i64) 3 w' W.heap.size (fun _ => True) v0_ (r.take na) ∧ Below W.heap.size W w' := by
  have hl : (r.take na).length = na := by rw [List.length_take, h.hr]; omega
  have hcl : slices_Clone_int_int.f (r.take na) = some (r.take na) := by unfold slices_Clone_int_int.f; rw [if_pos (by omega)]
  have e := slices_Clone_int_int.calls (some ⟨fb, 0, none⟩) 16 (r.take na) (r.take na) W (by rw [hl]; exact h.C na hn) (by omega) hcl
  rw [hl] at e
  exact e
/-- What a call comes to. -/
def exec_machine_call.Law (mod : List Ex.Cd) (fuel : Int) (g : Nat) : Prop := ∀ (name : ByteArray) (vs : List Int) (deep : Int) (m : Rn.M) (q : Rn.Res) (m' : Rn.M), Ex.call mod fuel g name vs deep m = some (q, m') → ∀ (W0 W : World) (gm : Nat) (A : Option Addr) (c : Nat) (tv : Value) (Av : Option Addr) (cv : Nat),
    Ex.kC.C W0 A mod.length mod → mod.length ≤ c → Below W0.heap.size W0 W → Ex.St W W0.heap.size gm A mod.length c fuel m tv → (Kd.int .i64).C W Av vs.length vs → vs.length ≤ cv → (0 ≤ deep ∧ deep ≤ 1000) →
    Calls Try.prog 19 #[.pointer (some ⟨gm, 0, none⟩), .string name, .slice Av vs.length cv, .int .i64 deep] W fun e w' => e = Ex.ending q ∧ ∃ tv', Ex.St w' W0.heap.size gm A mod.length c fuel m' tv' ∧ Rn.Fr W0.heap.size gm tv tv' W w'
set_option maxHeartbeats 16000000 in
set_option maxRecDepth 100000 in
theorem exec_machine_call.calls (mod : List Ex.Cd) (fuel : Int) (g : Nat) : exec_machine_call.Law mod fuel g := by
  induction g using Nat.strongRecOn with
  | ind g IH => ?_
  intro name vs deep m q m' hgo W0 W gm A c tv Av cv hmod hmc hb0 hst hvs hvc hdp
  have HIH := Aside0.mk IH
  have HMOD := Aside0.mk hmod
  have B0 := Aside0.mk hb0
  have HGO := Aside0.mk hgo
  have hw0 := hb0.size
  have hgm : gm < W.heap.size := (Array.getElem?_eq_some_iff.1 hst.ob).1
  -- ahead of the look
  obtain ⟨W1, hW1⟩ : ∃ W1, W.alloc (.cells #[.string name] 9) = W1 := ⟨_, rfl⟩
  have hnm : W1.cell? ⟨W.heap.size, 0, none⟩ = some (.string name) := by rw [← hW1]; exact cell_of_row _ _ 0 _ _ _ (Hw.blk_nw W _)
  have hs1 : W.heap.size < W1.heap.size := by rw [← hW1]; simp
  have HS := Aside0.mk (hst.alloc (.cells #[.string name] 9))
  have HV := Aside0.mk (Kd.C_below hvs ((Below.refl W.heap.size W).alloc (Nat.le_refl _) (.cells #[.string name] 9)))
  have HF := Aside0.mk ((Rn.Fr.refl W0.heap.size gm tv W).alloc hw0 (.cells #[.string name] 9))
  rw [hW1] at HS HV HF
  have hIX := api_Code.callsP name 28 #[.pointer (some ⟨W.heap.size, 0, none⟩)] (fun _ _ => by kernel_rfl) A c mod W1 (Kd.C_below hmod (hb0.trans HF.out.b)) hmc (fun W2 x cs hK hb => exec_machine_call.eq_calls x cs name _ W2 hK ((hb.cell (p := ⟨W.heap.size, 0, none⟩) hs1).trans hnm))
  have hmf : ∀ (fn : Fn) (first cap : Array Value) (w : World), (Instr.makeFunc fn first cap).run Try.prog w = .ok (.func fn first cap) w := fun _ _ _ _ => rfl
  have k0 := HS.out.at0
  clear hgo hmod hst hvs IH hb0 hnm hs1
  rcases Ex.ix_cases mod name with hix | ⟨i, hi, hix⟩
  · have HGO := HGO.out
    unfold Ex.call Ex.ok at HGO
    rw [hix] at HGO hIX
    rw [if_neg (by simp)] at HGO
    obtain ⟨rfl, rfl⟩ := Prod.mk.inj (Option.some.inj HGO)
    obtain ⟨kx, hkx⟩ : ∃ kx : Int, -1 = kx := ⟨_, rfl⟩
    rw [hkx] at hIX
    have HIX := Aside0.mk hIX
    have hneg : kx < 0 := by omega
    have hneg2 : decide (kx < 0) = true := decide_eq_true hneg
    clear HGO hix hIX hkx
    go_enter Try.func19, Try.ntmps19
    go_wp2_with (go_at_call 27; (with_reducible refine HIX.out.mono ?_); rintro e w2 ⟨rfl, hb2⟩; have HF := Aside0.mk (HF.out.trans (Rn.Fr.of hb2 HS.out.hb)); have HS := Aside0.mk (HS.out.below hb2); have k0 := HS.out.at0; clear hb2)
    exact ⟨rfl, rfl, _, HS.out, HF.out⟩
  obtain ⟨ad, Ab, cb, rfl, c0, c1, c2, c3, c4, hbl, hbC⟩ := Ex.at_C HMOD.out i hi
  have KX : Aside0 (∀ W2, Below W0.heap.size W0 W2 → W2.cell? (ad.add (i * 5)) = some (.string (mod.getD i Ex.zC).name) ∧ W2.cell? ⟨(ad.add (i * 5)).block, (ad.add (i * 5)).off + 1, none⟩ = some (.int .i64 (mod.getD i Ex.zC).params) ∧ W2.cell? ⟨(ad.add (i * 5)).block, (ad.add (i * 5)).off + 2, none⟩ = some (.int .i64 (mod.getD i Ex.zC).regs) ∧ W2.cell? ⟨(ad.add (i * 5)).block, (ad.add (i * 5)).off + 3, none⟩ = some (.int .i64 (mod.getD i Ex.zC).slots) ∧ W2.cell? ⟨(ad.add (i * 5)).block, (ad.add (i * 5)).off + 4, none⟩ = some (.slice Ab (mod.getD i Ex.zC).blocks.length cb)) := ⟨fun W2 hb => ⟨(hb.cell (World.block_lt_of_cell? W0 _ c0)).trans c0, (hb.cell (World.block_lt_of_cell? W0 _ c1)).trans c1, (hb.cell (World.block_lt_of_cell? W0 _ c2)).trans c2, (hb.cell (World.block_lt_of_cell? W0 _ c3)).trans c3, (hb.cell (World.block_lt_of_cell? W0 _ c4)).trans c4⟩⟩
  have HBC := Aside0.mk hbC
  rw [hix] at hIX
  have HIX := Aside0.mk hIX
  have HGO : Aside0 ((if Ex.ok mod (i : Int) vs.length deep = true then Rn.blk (mod.getD i Ex.zC).blocks 0 fun b => Ex.go mod fuel g (mod.getD i Ex.zC).blocks (Ex.entry vs) Ex.ps b deep m else some (Rn.Res.trap, m)) = some (q, m')) := ⟨by
    have h := HGO.out
    unfold Ex.call at h
    rw [hix] at h
    exact h⟩
  have hok : Ex.ok mod (i : Int) vs.length deep = decide ((mod.getD i Ex.zC).params = (vs.length : Int) ∧ deep < 32) := by
    unfold Ex.ok
    rw [Int.toNat_natCast]
    simp
  rw [hok] at HGO
  clear c0 c1 c2 c3 c4 hbC hIX hix hok
  generalize mod.getD i Ex.zC = F at KX HBC HGO hbl
  have hilt : (i : Int) < (mod.length : Int) := by omega
  by_cases hpar : F.params = (vs.length : Int)
  case neg =>
    obtain ⟨rfl, rfl⟩ := Prod.mk.inj (Option.some.inj ((if_neg (by simp [hpar])).symm.trans HGO.out))
    have hpar2 : decide (F.params = (vs.length : Int)) = false := decide_eq_false hpar
    clear HGO
    go_enter Try.func19, Try.ntmps19
    go_wp2_with (go_at_call 27; (with_reducible refine HIX.out.mono ?_); rintro e w2 ⟨rfl, hb2⟩; have HF := Aside0.mk (HF.out.trans (Rn.Fr.of hb2 HS.out.hb)); have HS := Aside0.mk (HS.out.below hb2); have k0 := HS.out.at0; obtain ⟨c0, c1, c2, c3, c4⟩ := KX.out _ (B0.out.trans HF.out.b); clear hb2)
    exact ⟨rfl, rfl, _, HS.out, HF.out⟩
  by_cases hdeep : deep < 32
  case neg =>
    obtain ⟨rfl, rfl⟩ := Prod.mk.inj (Option.some.inj ((if_neg (by simp [hdeep])).symm.trans HGO.out))
    have hdeep2 : decide ((32 : Int) ≤ deep) = true := decide_eq_true (by omega)
    clear HGO
    go_enter Try.func19, Try.ntmps19
    go_wp2_with (go_at_call 27; (with_reducible refine HIX.out.mono ?_); rintro e w2 ⟨rfl, hb2⟩; have HF := Aside0.mk (HF.out.trans (Rn.Fr.of hb2 HS.out.hb)); have HS := Aside0.mk (HS.out.below hb2); have k0 := HS.out.at0; obtain ⟨c0, c1, c2, c3, c4⟩ := KX.out _ (B0.out.trans HF.out.b); clear hb2)
    exact ⟨rfl, rfl, _, HS.out, HF.out⟩
  have HG2 := Aside0.mk ((if_pos (by simp [hpar, hdeep])).symm.trans HGO.out)
  clear HGO
  obtain ⟨fname, fpar, freg, fslt, fbl⟩ := F
  dsimp only at KX HBC HG2 hbl hpar
  by_cases hb0l : 0 < fbl.length
  case neg =>
    have := HG2.out
    unfold Rn.blk at this
    rw [if_neg (by omega)] at this
    cases this
  have HGO : Aside0 (Ex.go mod fuel g fbl (Ex.entry vs) Ex.ps (fbl.getD 0 []) deep m = some (q, m')) := ⟨by
    have h := HG2.out
    unfold Rn.blk at h
    rw [if_pos (by omega)] at h
    exact h⟩
  clear HG2
  obtain ⟨adb, Ai, ci, rfl, d0, hil, hiC⟩ := Rn.at_B HBC.out 0 hb0l
  generalize fbl.getD 0 [] = blk0 at HGO d0 hil hiC
  have KB : Aside0 (∀ W2, Below W0.heap.size W0 W2 → W2.cell? adb = some (.slice Ai blk0.length ci)) := ⟨fun W2 hb => (hb.cell (World.block_lt_of_cell? W0 _ d0)).trans d0⟩
  have HIC := Aside0.mk hiC
  clear d0 hiC
  have hdeep2 : decide ((32 : Int) ≤ deep) = false := decide_eq_false (by omega)
  have hpar2 : decide (fpar = (vs.length : Int)) = true := decide_eq_true hpar
  go_enter Try.func19, Try.ntmps19
  go_upto_region 5 with (go_at_call 27; (with_reducible refine HIX.out.mono ?_); rintro e w2 ⟨rfl, hb2⟩; have HF := Aside0.mk (HF.out.trans (Rn.Fr.of hb2 HS.out.hb)); have HV := Aside0.mk (Kd.C_below HV.out hb2); have HS := Aside0.mk (HS.out.below hb2); have k0 := HS.out.at0; obtain ⟨c0, c1, c2, c3, c4⟩ := KX.out _ (B0.out.trans HF.out.b); clear hb2)
  subst hpar
  have HK := Aside0.mk (Hw.blk_nw w2 (.cells #[.string fname, .int .i64 (vs.length : Int), .int .i64 freg, .int .i64 fslt, .slice (some adb) fbl.length cb] 31))
  have hfb : W.heap.size ≤ w2.heap.size := HF.out.b.size
  have hft : ∀ k, some k = tv.ownBlock → k < w2.heap.size := fun k hk => by
    obtain ⟨_, ho⟩ := Kd.R_own HS.out.tr
    exact own_lt ho k hk.symm
  have HFT := Aside0.mk hft
  have HF := Aside0.mk (HF.out.alloc HS.out.hb (.cells #[.string fname, .int .i64 (vs.length : Int), .int .i64 freg, .int .i64 fslt, .slice (some adb) fbl.length cb] 31))
  have HV := Aside0.mk (Kd.C_below HV.out ((Below.refl w2.heap.size w2).alloc (Nat.le_refl _) (.cells #[.string fname, .int .i64 (vs.length : Int), .int .i64 freg, .int .i64 fslt, .slice (some adb) fbl.length cb] 31)))
  have HS := Aside0.mk (HS.out.alloc (.cells #[.string fname, .int .i64 (vs.length : Int), .int .i64 freg, .int .i64 fslt, .slice (some adb) fbl.length cb] 31))
  have hs3 : (w2.alloc (.cells #[.string fname, .int .i64 (vs.length : Int), .int .i64 freg, .int .i64 fslt, .slice (some adb) fbl.length cb] 31)).heap.size = w2.heap.size + 1 := by simp
  clear hft c0 c1 c2 c3 c4 k0
  generalize w2.heap.size = kb at HK hfb HFT hs3 ⊢
  generalize w2.alloc (.cells #[.string fname, .int .i64 (vs.length : Int), .int .i64 freg, .int .i64 fslt, .slice (some adb) fbl.length cb] 31) = W3 at HK HF HV HS hs3 ⊢
  -- the frame
  have hz : ∀ w : World, (zeroValue 77).run Try.prog w = .ok (.agg (exec_clean.A 0)) w := fun w => by kernel_rfl
  have hzs := exec_clean.A_size 0 (by decide)
  have hfs : Ex.F0.size = 80 := Ex.F0_size
  have hsz : (Try.prog.info? 77).map (·.size) = some Ex.F0.size := by rw [hfs]; exact exec_clean.size
  refine wp_region_list ?_
  refine goesL_ (some 49) rfl rfl Try.func29 (by kernel_rfl) rfl #[] rfl (by simp) ?_
  refine (exec_clean.calls _).mono ?_
  rintro e w3 ⟨rfl, hb3⟩
  refine ⟨_, rfl, ?_⟩
  refine Ex.wpList_alloc rfl 77 rfl (exec_clean.A 0) hz ?_
  refine wpList_store_row rfl 77 _ _ rfl w3.heap.size Ex.F0 rfl rfl 77 (exec_clean.A 0) (Hw.blk_nw w3 _) hsz (by rw [hzs, Ex.F0_size]) Ex.F0_all ?_
  rw [World.setRow_alloc_new]
  have hb5 := hb3.alloc hb3.size (.cells Ex.F0 77)
  have HFM : Aside0 (Ex.Fm (w3.alloc (.cells Ex.F0 77)) w3.heap.size Ex.pr Ex.ps) := ⟨Ex.Fm.fresh (Hw.blk_nw w3 _)⟩
  have hkf : kb < w3.heap.size := by have := hb3.size; omega
  have HK := Aside0.mk ((hb5.block kb (by omega)).trans HK.out)
  have HF := Aside0.mk (HF.out.trans (Rn.Fr.of hb5 HS.out.hb))
  have HV := Aside0.mk (Kd.C_below HV.out hb5)
  have HS := Aside0.mk (HS.out.below hb5)
  clear hz hzs hfs hsz hb3 hb5 hs3
  generalize w3.heap.size = fb at HFM hkf ⊢
  generalize w3.alloc (.cells Ex.F0 77) = W4 at HFM HK HF HV HS ⊢
  obtain ⟨W5, vc, hcp, hfm5, hg5⟩ := Ex.copied (cv := cv) HFM.out HV.out
  have hbas : W0.heap.size ≤ W.heap.size := hw0
  have HLP : Aside0 (Ex.Lp W W4 W0.heap.size gm (some ad) mod.length c fuel tv tv kb fb #[.string fname, .int .i64 (vs.length : Int), .int .i64 freg, .int .i64 fslt, .slice (some adb) fbl.length cb] m Ex.pr Ex.ps) := ⟨⟨⟨HS.out, HFM.out, by omega, fun e => by have := HFT.out _ e; omega, by omega⟩, HF.out, HK.out, fun e => by have := HFT.out _ e; omega, hgm, hfb, hkf, hbas⟩⟩
  have HLP := Aside0.mk (HLP.out.grown hg5 hfm5)
  have hcp2 := hcp 3
  clear hg5 hfm5 HV HFM hcp HFT HS HF HK
  go_upto_region 7 with fail
  have b4 : W5.cell? ⟨kb, 4, none⟩ = some (.slice (some adb) fbl.length cb) := cell_of_row W5 kb 4 _ _ _ HLP.out.hk
  have bk := KB.out W5 (B0.out.trans HLP.out.fr.b)
  have hb0z : (0 : Int) < (fbl.length : Int) := by omega
  go_upto_region 8 with fail
  clear hcp2 b4 bk HIX KX KB
  go_loopg [12] g (fun gg v12 wq => ∃ (rest : List Rn.Ins) (r s : List Int) (mm : Rn.M) (tq : Value) (Ar : Option Addr) (cr : Nat), v12 = .slice Ar rest.length cr ∧ rest.length ≤ cr ∧ gg ≤ g ∧ Aside0 (Rn.kI.C W0 Ar rest.length rest) ∧ Aside0 (Ex.go mod fuel gg fbl r s rest deep mm = some (q, m')) ∧ Aside0 (Ex.Lp W wq W0.heap.size gm (some ad) mod.length c fuel tv tq kb fb #[.string fname, .int .i64 (vs.length : Int), .int .i64 freg, .int .i64 fslt, .slice (some adb) fbl.length cb] mm r s))
  case atStart => exact ⟨blk0, _, _, m, tv, Ai, ci, rfl, hil, Nat.le_refl g, HIC, HGO, HLP⟩
  case round =>
    clear HLP HGO HIC
    obtain ⟨rest, r, s, mm, tq, Ar, cr, rfl, hrl, hgg, HIC, HGO, HLP⟩ := hrel
    cases gk with
    | zero => exact absurd HGO.out (by intro h; rw [Ex.go] at h; cases h)
    | succ gk =>
    have k1 := HLP.out.p.st.at258
    have k2 := HLP.out.p.st.at259
    have f2 := HLP.out.p.st.fz 259
    have hs := HLP.out.p.st.hs
    have hf := HLP.out.p.st.hf
    have HL0 := Aside0.mk HLP.out.p.st.ht
    by_cases hst : fuel ≤ mm.steps
    · have hgo := HGO.out
      rw [Ex.go_out hst] at hgo
      obtain ⟨rfl, rfl⟩ := Prod.mk.inj (Option.some.inj hgo)
      clear hgo HGO
      go_upto_region 8 with fail
      go_quiet (fail)
      go_wp2_with (fail)
      exact ⟨rfl, rfl, _, HLP.out.p.st.drewN nq, HLP.out.fr.drewN nq⟩
    cases rest with
    | nil => exact absurd HGO.out (by rw [Ex.go_nil hst]; intro h; cases h)
    | cons x rest =>
    have HST := Aside0.mk (Int.not_le.1 hst)
    obtain ⟨adx, Ag, cg, rfl, x0, x1, x2, x3, x4, x5, hgl, hgC⟩ := Rn.at_I HIC.out 0 (by simp)
    have e0 : adx.add (0 * 6) = adx := by simp [Addr.add]
    rw [e0] at x0 x1 x2 x3 x4 x5
    have KX : Aside0 (∀ W2, Below W0.heap.size W0 W2 → W2.cell? adx = some (.int .i64 x.op) ∧ W2.cell? ⟨adx.block, adx.off + 1, none⟩ = some (.int .i64 x.d) ∧ W2.cell? ⟨adx.block, adx.off + 2, none⟩ = some (.int .i64 x.a) ∧ W2.cell? ⟨adx.block, adx.off + 3, none⟩ = some (.int .i64 x.b) ∧ W2.cell? ⟨adx.block, adx.off + 4, none⟩ = some (.string x.name) ∧ W2.cell? ⟨adx.block, adx.off + 5, none⟩ = some (.slice Ag x.args.length cg)) := ⟨fun W2 hb => ⟨(hb.cell (World.block_lt_of_cell? W0 _ x0)).trans x0, (hb.cell (World.block_lt_of_cell? W0 _ x1)).trans x1, (hb.cell (World.block_lt_of_cell? W0 _ x2)).trans x2, (hb.cell (World.block_lt_of_cell? W0 _ x3)).trans x3, (hb.cell (World.block_lt_of_cell? W0 _ x4)).trans x4, (hb.cell (World.block_lt_of_cell? W0 _ x5)).trans x5⟩⟩
    clear x0 x1 x2 x3 x4 x5 hgC e0 hgl
    have HIR := Aside0.mk (Rn.rest_C HIC.out hrl)
    have hsl := fun (W2 : World) => Rn.rest W2 (some adx) rest.length cr
    have hrl2 : rest.length ≤ cr - 1 := by
      have : rest.length + 1 ≤ cr := hrl
      omega
    have HGO : Aside0 (Ex.go mod fuel (gk + 1) fbl r s (x :: rest) deep mm = some (q, m')) := HGO
    obtain ⟨xop, xd, xa, xbb, xname, xargs⟩ := x
    dsimp only at KX
    simp only [List.length_cons] at hrl ⊢
    generalize (if cr = 1 then some adx else (some adx).map (·.add 6)) = Ar2 at HIR hsl
    go_upto_region 8 with fail
    go_quiet (fail)
    have HLP := Aside0.mk ((HLP.out.drewN nq).tick HST.out)
    have HTL : Aside0 (((Rn.tick mm).told.length : Int) < (Rn.tick mm).steps) := ⟨by
      have := HLP.out.p.st.ht
      have h2 := HL0.out
      show (mm.told.length : Int) < mm.steps + 1
      omega⟩
    go_upto_region 11 with fail
    clear k1 k2 f2
    generalize (wr.drewN nq).setCell ⟨gm, 259, none⟩ (.int .i64 (mm.steps + 1)) = W6 at HLP ⊢
    obtain ⟨x0, x1, x2, x3, x4, x5⟩ := KX.out _ (B0.out.trans HLP.out.fr.b)
    go_upto_region 13 with fail
    have hxb : fb < W6.heap.size := HLP.out.p.fm.lt
    have HX := Aside0.mk (Hw.blk_nw W6 (.cells #[.int .i64 xop, .int .i64 xd, .int .i64 xa, .int .i64 xbb, .string xname, .slice Ag xargs.length cg] 28))
    have HLP := Aside0.mk (HLP.out.alloc (.cells #[.int .i64 xop, .int .i64 xd, .int .i64 xa, .int .i64 xbb, .string xname, .slice Ag xargs.length cg] 28))
    clear x0 x1 x2 x3 x4 x5
    generalize W6.heap.size = xb at hxb HX ⊢
    generalize W6.alloc (.cells #[.int .i64 xop, .int .i64 xd, .int .i64 xa, .int .i64 xbb, .string xname, .slice Ag xargs.length cg] 28) = W7 at HLP HX ⊢
    have y0 : W7.cell? ⟨xb, 0, none⟩ = some (.int .i64 xop) := cell_of_row W7 xb 0 _ _ _ HX.out
    have y1 : W7.cell? ⟨xb, 1, none⟩ = some (.int .i64 xd) := cell_of_row W7 xb 1 _ _ _ HX.out
    have y2 : W7.cell? ⟨xb, 2, none⟩ = some (.int .i64 xa) := cell_of_row W7 xb 2 _ _ _ HX.out
    have y3 : W7.cell? ⟨xb, 3, none⟩ = some (.int .i64 xbb) := cell_of_row W7 xb 3 _ _ _ HX.out
    have y4 : W7.cell? ⟨xb, 4, none⟩ = some (.string xname) := cell_of_row W7 xb 4 _ _ _ HX.out
    have y5 : W7.cell? ⟨xb, 5, none⟩ = some (.slice Ag xargs.length cg) := cell_of_row W7 xb 5 _ _ _ HX.out
    have b4 : W7.cell? ⟨kb, 4, none⟩ = some (.slice (some adb) fbl.length cb) := cell_of_row W7 kb 4 _ _ _ HLP.out.hk
    clear KX hsl HIC
    have hrl16 := HLP.out.p.fm.hr
    -- CASE 11
    by_cases o11 : xop = 11
    · as_aux_lemma =>
      subst o11
      have hgo := HGO.out
      rw [Ex.go11 (Int.not_le.2 HST.out)] at hgo
      by_cases hna : 0 ≤ xa ∧ xa ≤ 16
      case neg => rw [if_neg hna] at hgo; cases hgo
      rw [if_pos hna] at hgo
      obtain ⟨na, rfl⟩ : ∃ n : Nat, xa = (n : Int) := ⟨xa.toNat, by omega⟩
      rw [Int.toNat_natCast] at hgo
      have hna16 : na ≤ 16 := by omega
      have hdp1 : 0 ≤ deep := hdp.1
      have hdp2 : deep ≤ 1000 := hdp.2
      have zna : (na : Int) ≤ 16 := by omega
      clear hna
      have hxlt : xb < W7.heap.size := (Array.getElem?_eq_some_iff.1 HX.out).1
      have HD := Aside0.mk HLP.out.drew
      cases hcall : Ex.call mod fuel gk xname (r.take na) (deep + 1) (Rn.tick mm) with
      | none => rw [hcall] at hgo; cases hgo
      | some res =>
      obtain ⟨q1, m1⟩ := res
      rw [hcall] at hgo
      cases q1 with
      | val z =>
        dsimp only at hgo
        have HGO2 := Aside0.mk hgo
        clear hgo HGO
        go_upto_region 16 with fail
        have HLP := HD
        -- REGION 16 A
        refine start_ (n := 12) (S := fun w' => w'.cell? ⟨xb, 4, none⟩ = some (.string xname) ∧ w'.cell? ⟨xb, 2, none⟩ = some (.int .i64 (na : Int))) (ds := [10]) #[false, false, false, false, false, false, false, false, false, false, false, false] (by kernel_rfl) rfl rfl ⟨y4, y2⟩ (fun hHeld => ?_)
        refine pure_ (i := 0) (N := some 87) (v := ?_) (a' := ?_) #[true, false, false, false, false, false, false, false, false, false, false, false] rfl rfl (by kernel_rfl) (fun _ _ _ h => h) (Or.inl ⟨by rfl, ?_⟩) ?_ ?_
        rotate_left
        · intro w'
          go_simp
          with_reducible rfl
        rotate_left
        · simp only [Act.put, List.setIfInBounds_toArray, List.set_cons_zero, List.set_cons_succ, i64_w, i32_w]
          rfl
        refine pure_ (i := 1) (N := some 88) (v := ?_) (a' := ?_) #[true, true, false, false, false, false, false, false, false, false, false, false] rfl rfl (by kernel_rfl) (fun _ _ _ h => h) (Or.inl ⟨by rfl, ?_⟩) ?_ ?_
        rotate_left
        · intro w'
          go_simp
          with_reducible rfl
        rotate_left
        · simp only [Act.put, List.setIfInBounds_toArray, List.set_cons_zero, List.set_cons_succ, i64_w, i32_w]
          rfl
        refine pure_ (i := 3) (N := some 90) (v := ?_) (a' := ?_) #[true, true, false, true, false, false, false, false, false, false, false, false] rfl rfl (by kernel_rfl) (fun _ _ _ h => h) (Or.inl ⟨by rfl, ?_⟩) ?_ ?_
        rotate_left
        · intro w'
          go_simp
          with_reducible rfl
        rotate_left
        · simp only [Act.put, List.setIfInBounds_toArray, List.set_cons_zero, List.set_cons_succ, i64_w, i32_w]
          rfl
        refine pure_ (i := 4) (N := some 91) (v := ?_) (a' := ?_) #[true, true, false, true, true, false, false, false, false, false, false, false] rfl rfl (by kernel_rfl) (fun _ _ _ h => h) (Or.inl ⟨by rfl, ?_⟩) ?_ ?_
        rotate_left
        · intro w'
          go_simp
          with_reducible rfl
        rotate_left
        · simp only [Act.put, List.setIfInBounds_toArray, List.set_cons_zero, List.set_cons_succ, i64_w, i32_w]
          rfl
        refine pure_ (i := 8) (N := some 95) (v := ?_) (a' := ?_) #[true, true, false, true, true, false, false, false, true, false, false, false] rfl rfl (by kernel_rfl) (fun _ _ _ h => h) (Or.inl ⟨by rfl, ?_⟩) ?_ ?_
        rotate_left
        · intro w'
          go_simp
          with_reducible rfl
        rotate_left
        · simp only [Act.put, List.setIfInBounds_toArray, List.set_cons_zero, List.set_cons_succ, i64_w, i32_w]
          rfl
        refine pure_ (i := 9) (N := some 96) (v := ?_) (a' := ?_) #[true, true, false, true, true, false, false, false, true, true, false, false] rfl rfl (by kernel_rfl) (fun _ _ _ h => h) (Or.inl ⟨by rfl, ?_⟩) ?_ ?_
        rotate_left
        · intro w'
          go_simp
          with_reducible rfl
        rotate_left
        · simp only [Act.put, List.setIfInBounds_toArray, List.set_cons_zero, List.set_cons_succ, i64_w, i32_w]
          rfl
        refine take_ (i := 2) (N := some 89) (v := ?_) (a' := ?_) #[true, true, true, true, true, false, false, false, true, true, false, false] rfl rfl (by kernel_rfl) (fun _ _ _ h => h) (Or.inl ⟨by rfl, ?_⟩) hHeld ?_ ?_
        rotate_left
        · rintro w' ⟨s0, s1⟩
          go_simp
          with_reducible rfl
        rotate_left
        · simp only [Act.put, List.setIfInBounds_toArray, List.set_cons_zero, List.set_cons_succ, i64_w, i32_w]
          rfl
        refine take_ (i := 5) (N := some 92) (v := ?_) (a' := ?_) #[true, true, true, true, true, true, false, false, true, true, false, false] rfl rfl (by kernel_rfl) (fun _ _ _ h => h) (Or.inl ⟨by rfl, ?_⟩) hHeld ?_ ?_
        rotate_left
        · rintro w' ⟨s0, s1⟩
          go_simp
          with_reducible rfl
        rotate_left
        · simp only [Act.put, List.setIfInBounds_toArray, List.set_cons_zero, List.set_cons_succ, i64_w, i32_w]
          rfl
        refine pure_ (i := 6) (N := some 93) (v := ?_) (a' := ?_) #[true, true, true, true, true, true, true, false, true, true, false, false] rfl rfl (by kernel_rfl) (fun _ _ _ h => h) (Or.inl ⟨by rfl, ?_⟩) ?_ ?_
        rotate_left
        · intro w'
          go_simp
          with_reducible rfl
        rotate_left
        · simp only [Act.put, List.setIfInBounds_toArray, List.set_cons_zero, List.set_cons_succ, i64_w, i32_w]
          rfl
        refine one_ (i := 7) (N := some 94) #[true, true, true, true, true, true, true, true, true, true, false, false] rfl rfl (by kernel_rfl) (by decide) (fun K hK => ?_)
        refine goes_ Try.func20 (by kernel_rfl) rfl #[.slice (some ⟨fb, 0, none⟩) na 16] (by rfl) rfl rfl (by simp only [List.map_toArray, List.map_cons, List.map_nil]; rfl) ?_
        with_reducible refine (exec_machine_call.clone r na fb s _ HLP.out.p.fm hna16).mono ?_
        rintro e w3 ⟨v0, rfl, hr3, hb3⟩
        refine ⟨_, rfl, ?_⟩
        have HLP := Aside0.mk (HLP.out.call (HLP.out.p.st.below hb3) (Rn.Fr.of hb3 HLP.out.p.st.hb))
        have y2 := (hb3.cell (World.block_lt_of_cell? _ _ y2)).trans y2
        have y4 := (hb3.cell (World.block_lt_of_cell? _ _ y4)).trans y4
        have HX := Aside0.mk ((hb3.block xb hxlt).trans HX.out)
        obtain ⟨Av, cv2, rfl, hle3, hC3⟩ := Kd.R_reads hr3
        have HC := Aside0.mk (HIH.out gk (by omega) xname (r.take na) (deep + 1) (Rn.tick mm) (.val z) m1 hcall W0 w3 gm (some ad) c tq Av cv2 HMOD.out hmc (B0.out.trans HLP.out.fr.b) HLP.out.p.st hC3 hle3 (by omega))
        clear hr3 hb3 hle3 hC3
        refine hK.out _ _ ⟨y4, y2⟩ (fun hHeld => ?_)
        clear hK K
        refine norm_ (a' := ?_) ?_ ?_
        rotate_left
        · show Act.put _ (some 94) _ = _
          simp only [Act.put, List.setIfInBounds_toArray, List.set_cons_zero, List.set_cons_succ, i64_w, i32_w]
          rfl
        refine last_ (i := 10) (N := some 97) #[true, true, true, true, true, true, true, true, true, true, true, false] rfl rfl (by kernel_rfl) (by decide) (fun K hK => ?_)
        refine Ex.goesP_ Try.func19 (by kernel_rfl) rfl #[.pointer (some ⟨gm, 0, none⟩), .string xname, .slice Av (r.take na).length cv2, .int .i64 (wrap64 (deep + 1))] (by rfl) rfl rfl (by simp only [List.map_toArray, List.map_cons, List.map_nil]; rfl) ?_
        rw [Hw.w64 (deep + 1) (by omega) (by omega)]
        with_reducible refine HC.out.mono ?_
        rintro e w9 ⟨rfl, tq9, hs9, hf9⟩
        have HLP := Aside0.mk (HLP.out.call hs9 hf9)
        dsimp only [Ex.ending, Ex.Up]
        clear hs9 hf9
        refine hK.out _ _ ?_
        clear hK K
        refine norm_ (a' := ?_) ?_ ?_
        rotate_left
        · show Act.put _ (some 97) _ = _
          simp only [Act.put, List.setIfInBounds_toArray, List.set_cons_zero, List.set_cons_succ, i64_w, i32_w]
          rfl
        refine pure_ (i := 11) (N := some 14) (v := ?_) (a' := ?_) #[true, true, true, true, true, true, true, true, true, true, true, true] rfl rfl (by kernel_rfl) (fun _ _ _ h => h) (Or.inl ⟨by rfl, ?_⟩) ?_ ?_
        rotate_left
        · intro w'
          go_simp
          with_reducible rfl
        rotate_left
        · simp only [Act.put, List.setIfInBounds_toArray, List.set_cons_zero, List.set_cons_succ, i64_w, i32_w]
          rfl
        refine done_ (by kernel_rfl) ?_
        go_upto_region 17 with fail
        -- the slots are put by
        have hz64 : ∀ w : World, (zeroValue 75).run Try.prog w = .ok (.agg ((List.replicate 64 (0 : Int)).map (Value.int .i64)).toArray) w := fun w => by kernel_rfl
        have hsl := HLP.out.p.fm.hs
        have hi64 : (Try.prog.info? 75).map (·.size) = some 64 := by kernel_rfl
        have hsz : (Try.prog.info? 75).map (·.size) = some ((s.map (Value.int .i64)).toArray).size := by rw [List.size_toArray, List.length_map, hsl]; exact hi64
        have hsz2 : (Try.prog.info? 75).map (·.size) = some (s.map (Value.int .i64)).length := by rw [List.length_map, hsl]; exact hi64
        refine wp_region_list ?_
        refine Ex.wpList_go rfl (some 98) rfl (.pointer (some ⟨fb, 16, none⟩)) (by first | (go_simp; done) | (go_simp; rfl)) ?_
        refine Ex.wpList_norm (a' := ?na1) ?nh1 ?_
        case nh1 => simp only [Act.put, List.setIfInBounds_toArray, List.set_cons_zero, List.set_cons_succ]; rfl
        refine Ex.w_load_mid (some 99) rfl rfl 75 _ rfl fb 16 rfl (s.map (Value.int .i64)) _ HLP.out.p.fm.range Try.underlying75 rfl hsz2 ?_
        refine Ex.wpList_norm (a' := ?na2) ?nh2 ?_
        case nh2 => simp only [Act.put, List.setIfInBounds_toArray, List.set_cons_zero, List.set_cons_succ]; rfl
        refine Ex.w_alloc (some 15) rfl rfl 75 rfl _ hz64 ?_
        refine Ex.wpList_norm (a' := ?na3) ?nh3 ?_
        case nh3 => simp only [Act.put, List.setIfInBounds_toArray, List.set_cons_zero, List.set_cons_succ]; rfl
        refine Ex.w_store_row rfl rfl 75 _ _ rfl w9.heap.size (s.map (Value.int .i64)).toArray rfl rfl 75 _ (Hw.blk_nw w9 _) hsz (by rw [List.size_toArray, List.size_toArray, List.length_map, List.length_map, hsl]; rfl) (Ex.ints_one _) ?_
        rw [World.setRow_alloc_new]
        have HTB := Aside0.mk (Hw.blk_nw w9 (.cells (s.map (Value.int .i64)).toArray 75))
        have hfw : fb < w9.heap.size := HLP.out.p.fm.lt
        have HLP := Aside0.mk (HLP.out.alloc (.cells (s.map (Value.int .i64)).toArray 75))
        clear hz64
        generalize w9.heap.size = tb at HTB hfw ⊢
        generalize w9.alloc (.cells (s.map (Value.int .i64)).toArray 75) = W10 at HLP HTB ⊢
        go_upto_region 18 with fail
        -- a clean frame
        have hfs : Ex.F0.size = 80 := Ex.F0_size
        have hszf : (Try.prog.info? 77).map (·.size) = some Ex.F0.size := by rw [hfs]; exact exec_clean.size
        have htlt : tb < W10.heap.size := (Array.getElem?_eq_some_iff.1 HTB.out).1
        refine wp_region_list ?_
        refine goesL_ (some 100) rfl rfl Try.func29 (by kernel_rfl) rfl #[] rfl (by simp) ?_
        refine (exec_clean.calls _).mono ?_
        rintro e w11 ⟨rfl, hb11⟩
        have HTB := Aside0.mk ((hb11.block tb htlt).trans HTB.out)
        have HLP := Aside0.mk (HLP.out.call (HLP.out.p.st.below hb11) (Rn.Fr.of hb11 HLP.out.p.st.hb))
        refine ⟨_, rfl, ?_⟩
        refine Ex.wpList_norm (a' := ?na4) ?nh4 ?_
        case nh4 => simp only [Act.put, List.setIfInBounds_toArray, List.set_cons_zero, List.set_cons_succ]; rfl
        refine Ex.w_store_row rfl rfl 77 _ _ rfl fb Ex.F0 rfl rfl 77 _ HLP.out.p.fm.ob hszf (by rw [HLP.out.p.fm.size, Ex.F0_size]) Ex.F0_all ?_
        have HTB := Aside0.mk (((Ex.gsetRow w11 fb Ex.F0).block tb (Array.getElem?_eq_some_iff.1 HTB.out).1 (fun e => by injection e with e; omega)).trans HTB.out)
        have HLP := Aside0.mk (HLP.out.grown (Ex.gsetRow w11 fb Ex.F0) HLP.out.p.fm.clean)
        clear hb11 hfs hszf htlt
        generalize w11.setRow fb Ex.F0 = W12 at HLP HTB ⊢
        go_upto_region 19 with fail
        -- the slots are put back
        have hold := HLP.out.p.fm.size
        refine wp_region_list ?_
        refine Ex.w_load_row (some 101) rfl rfl 75 _ rfl tb rfl 75 (s.map (Value.int .i64)).toArray (0, 0) _ HTB.out Try.underlying75 rfl hsz ?_
        refine Ex.wpList_norm (a' := ?na5) ?nh5 ?_
        case nh5 => simp only [Act.put, List.setIfInBounds_toArray, List.set_cons_zero, List.set_cons_succ]; rfl
        refine Ex.wpList_go rfl (some 102) rfl (.pointer (some ⟨fb, 16, none⟩)) (by first | (go_simp; done) | (go_simp; rfl)) ?_
        refine Ex.wpList_norm (a' := ?na6) ?nh6 ?_
        case nh6 => simp only [Act.put, List.setIfInBounds_toArray, List.set_cons_zero, List.set_cons_succ]; rfl
        refine Ex.w_store_mid rfl rfl 75 _ _ rfl fb 16 (s.map (Value.int .i64)).toArray rfl rfl 77 _ HLP.out.p.fm.ob hsz (by rw [hold, List.size_toArray, List.length_map, hsl]; decide) (Ex.ints_one _) ?_
        have HLP := Aside0.mk (HLP.out.grown (Ex.gsetRow W12 fb _) (HLP.out.p.fm.slots s hsl))
        clear hsz hsz2 hi64 hold
        generalize W12.setRow fb _ = W13 at HLP ⊢
        go_upto_region 20 with fail
        have c0 := HLP.out.p.fm.cr 0 (by decide)
        have f0 := HLP.out.p.fm.fz 0
        go_wp2_with (fail)
        go_roundg gk
        case measure => omega
        case rel => exact ⟨rest, Ex.pr.set 0 z, s, m1, tq9, Ar2, cr - 1, rfl, hrl2, by omega, HIR, HGO2, ⟨HLP.out.setr 0 (by decide) z⟩⟩
      | trap =>
        dsimp only at hgo
        obtain ⟨rfl, rfl⟩ := Prod.mk.inj (Option.some.inj hgo)
        clear hgo HGO
        go_upto_region 16 with fail
        have HLP := HD
        -- REGION 16 B
        refine start_ (n := 12) (S := fun w' => w'.cell? ⟨xb, 4, none⟩ = some (.string xname) ∧ w'.cell? ⟨xb, 2, none⟩ = some (.int .i64 (na : Int))) (ds := [10]) #[false, false, false, false, false, false, false, false, false, false, false, false] (by kernel_rfl) rfl rfl ⟨y4, y2⟩ (fun hHeld => ?_)
        refine pure_ (i := 0) (N := some 87) (v := ?_) (a' := ?_) #[true, false, false, false, false, false, false, false, false, false, false, false] rfl rfl (by kernel_rfl) (fun _ _ _ h => h) (Or.inl ⟨by rfl, ?_⟩) ?_ ?_
        rotate_left
        · intro w'
          go_simp
          with_reducible rfl
        rotate_left
        · simp only [Act.put, List.setIfInBounds_toArray, List.set_cons_zero, List.set_cons_succ, i64_w, i32_w]
          rfl
        refine pure_ (i := 1) (N := some 88) (v := ?_) (a' := ?_) #[true, true, false, false, false, false, false, false, false, false, false, false] rfl rfl (by kernel_rfl) (fun _ _ _ h => h) (Or.inl ⟨by rfl, ?_⟩) ?_ ?_
        rotate_left
        · intro w'
          go_simp
          with_reducible rfl
        rotate_left
        · simp only [Act.put, List.setIfInBounds_toArray, List.set_cons_zero, List.set_cons_succ, i64_w, i32_w]
          rfl
        refine pure_ (i := 3) (N := some 90) (v := ?_) (a' := ?_) #[true, true, false, true, false, false, false, false, false, false, false, false] rfl rfl (by kernel_rfl) (fun _ _ _ h => h) (Or.inl ⟨by rfl, ?_⟩) ?_ ?_
        rotate_left
        · intro w'
          go_simp
          with_reducible rfl
        rotate_left
        · simp only [Act.put, List.setIfInBounds_toArray, List.set_cons_zero, List.set_cons_succ, i64_w, i32_w]
          rfl
        refine pure_ (i := 4) (N := some 91) (v := ?_) (a' := ?_) #[true, true, false, true, true, false, false, false, false, false, false, false] rfl rfl (by kernel_rfl) (fun _ _ _ h => h) (Or.inl ⟨by rfl, ?_⟩) ?_ ?_
        rotate_left
        · intro w'
          go_simp
          with_reducible rfl
        rotate_left
        · simp only [Act.put, List.setIfInBounds_toArray, List.set_cons_zero, List.set_cons_succ, i64_w, i32_w]
          rfl
        refine pure_ (i := 8) (N := some 95) (v := ?_) (a' := ?_) #[true, true, false, true, true, false, false, false, true, false, false, false] rfl rfl (by kernel_rfl) (fun _ _ _ h => h) (Or.inl ⟨by rfl, ?_⟩) ?_ ?_
        rotate_left
        · intro w'
          go_simp
          with_reducible rfl
        rotate_left
        · simp only [Act.put, List.setIfInBounds_toArray, List.set_cons_zero, List.set_cons_succ, i64_w, i32_w]
          rfl
        refine pure_ (i := 9) (N := some 96) (v := ?_) (a' := ?_) #[true, true, false, true, true, false, false, false, true, true, false, false] rfl rfl (by kernel_rfl) (fun _ _ _ h => h) (Or.inl ⟨by rfl, ?_⟩) ?_ ?_
        rotate_left
        · intro w'
          go_simp
          with_reducible rfl
        rotate_left
        · simp only [Act.put, List.setIfInBounds_toArray, List.set_cons_zero, List.set_cons_succ, i64_w, i32_w]
          rfl
        refine take_ (i := 2) (N := some 89) (v := ?_) (a' := ?_) #[true, true, true, true, true, false, false, false, true, true, false, false] rfl rfl (by kernel_rfl) (fun _ _ _ h => h) (Or.inl ⟨by rfl, ?_⟩) hHeld ?_ ?_
        rotate_left
        · rintro w' ⟨s0, s1⟩
          go_simp
          with_reducible rfl
        rotate_left
        · simp only [Act.put, List.setIfInBounds_toArray, List.set_cons_zero, List.set_cons_succ, i64_w, i32_w]
          rfl
        refine take_ (i := 5) (N := some 92) (v := ?_) (a' := ?_) #[true, true, true, true, true, true, false, false, true, true, false, false] rfl rfl (by kernel_rfl) (fun _ _ _ h => h) (Or.inl ⟨by rfl, ?_⟩) hHeld ?_ ?_
        rotate_left
        · rintro w' ⟨s0, s1⟩
          go_simp
          with_reducible rfl
        rotate_left
        · simp only [Act.put, List.setIfInBounds_toArray, List.set_cons_zero, List.set_cons_succ, i64_w, i32_w]
          rfl
        refine pure_ (i := 6) (N := some 93) (v := ?_) (a' := ?_) #[true, true, true, true, true, true, true, false, true, true, false, false] rfl rfl (by kernel_rfl) (fun _ _ _ h => h) (Or.inl ⟨by rfl, ?_⟩) ?_ ?_
        rotate_left
        · intro w'
          go_simp
          with_reducible rfl
        rotate_left
        · simp only [Act.put, List.setIfInBounds_toArray, List.set_cons_zero, List.set_cons_succ, i64_w, i32_w]
          rfl
        refine one_ (i := 7) (N := some 94) #[true, true, true, true, true, true, true, true, true, true, false, false] rfl rfl (by kernel_rfl) (by decide) (fun K hK => ?_)
        refine goes_ Try.func20 (by kernel_rfl) rfl #[.slice (some ⟨fb, 0, none⟩) na 16] (by rfl) rfl rfl (by simp only [List.map_toArray, List.map_cons, List.map_nil]; rfl) ?_
        with_reducible refine (exec_machine_call.clone r na fb s _ HLP.out.p.fm hna16).mono ?_
        rintro e w3 ⟨v0, rfl, hr3, hb3⟩
        refine ⟨_, rfl, ?_⟩
        have HLP := Aside0.mk (HLP.out.call (HLP.out.p.st.below hb3) (Rn.Fr.of hb3 HLP.out.p.st.hb))
        have y2 := (hb3.cell (World.block_lt_of_cell? _ _ y2)).trans y2
        have y4 := (hb3.cell (World.block_lt_of_cell? _ _ y4)).trans y4
        have HX := Aside0.mk ((hb3.block xb hxlt).trans HX.out)
        obtain ⟨Av, cv2, rfl, hle3, hC3⟩ := Kd.R_reads hr3
        have HC := Aside0.mk (HIH.out gk (by omega) xname (r.take na) (deep + 1) (Rn.tick mm) .trap m1 hcall W0 w3 gm (some ad) c tq Av cv2 HMOD.out hmc (B0.out.trans HLP.out.fr.b) HLP.out.p.st hC3 hle3 (by omega))
        clear hr3 hb3 hle3 hC3
        refine hK.out _ _ ⟨y4, y2⟩ (fun hHeld => ?_)
        clear hK K
        refine norm_ (a' := ?_) ?_ ?_
        rotate_left
        · show Act.put _ (some 94) _ = _
          simp only [Act.put, List.setIfInBounds_toArray, List.set_cons_zero, List.set_cons_succ, i64_w, i32_w]
          rfl
        refine last_ (i := 10) (N := some 97) #[true, true, true, true, true, true, true, true, true, true, true, false] rfl rfl (by kernel_rfl) (by decide) (fun K hK => ?_)
        refine Ex.goesP_ Try.func19 (by kernel_rfl) rfl #[.pointer (some ⟨gm, 0, none⟩), .string xname, .slice Av (r.take na).length cv2, .int .i64 (wrap64 (deep + 1))] (by rfl) rfl rfl (by simp only [List.map_toArray, List.map_cons, List.map_nil]; rfl) ?_
        rw [Hw.w64 (deep + 1) (by omega) (by omega)]
        with_reducible refine HC.out.mono ?_
        rintro e w9 ⟨rfl, tq9, hs9, hf9⟩
        have HLP := Aside0.mk (HLP.out.call hs9 hf9)
        dsimp only [Ex.ending, Ex.Up]
        go_wp2_with (fail)
        exact ⟨rfl, rfl, _, HLP.out.p.st, HLP.out.fr⟩
      | out =>
        dsimp only at hgo
        obtain ⟨rfl, rfl⟩ := Prod.mk.inj (Option.some.inj hgo)
        clear hgo HGO
        go_upto_region 16 with fail
        have HLP := HD
        -- REGION 16 C
        refine start_ (n := 12) (S := fun w' => w'.cell? ⟨xb, 4, none⟩ = some (.string xname) ∧ w'.cell? ⟨xb, 2, none⟩ = some (.int .i64 (na : Int))) (ds := [10]) #[false, false, false, false, false, false, false, false, false, false, false, false] (by kernel_rfl) rfl rfl ⟨y4, y2⟩ (fun hHeld => ?_)
        refine pure_ (i := 0) (N := some 87) (v := ?_) (a' := ?_) #[true, false, false, false, false, false, false, false, false, false, false, false] rfl rfl (by kernel_rfl) (fun _ _ _ h => h) (Or.inl ⟨by rfl, ?_⟩) ?_ ?_
        rotate_left
        · intro w'
          go_simp
          with_reducible rfl
        rotate_left
        · simp only [Act.put, List.setIfInBounds_toArray, List.set_cons_zero, List.set_cons_succ, i64_w, i32_w]
          rfl
        refine pure_ (i := 1) (N := some 88) (v := ?_) (a' := ?_) #[true, true, false, false, false, false, false, false, false, false, false, false] rfl rfl (by kernel_rfl) (fun _ _ _ h => h) (Or.inl ⟨by rfl, ?_⟩) ?_ ?_
        rotate_left
        · intro w'
          go_simp
          with_reducible rfl
        rotate_left
        · simp only [Act.put, List.setIfInBounds_toArray, List.set_cons_zero, List.set_cons_succ, i64_w, i32_w]
          rfl
        refine pure_ (i := 3) (N := some 90) (v := ?_) (a' := ?_) #[true, true, false, true, false, false, false, false, false, false, false, false] rfl rfl (by kernel_rfl) (fun _ _ _ h => h) (Or.inl ⟨by rfl, ?_⟩) ?_ ?_
        rotate_left
        · intro w'
          go_simp
          with_reducible rfl
        rotate_left
        · simp only [Act.put, List.setIfInBounds_toArray, List.set_cons_zero, List.set_cons_succ, i64_w, i32_w]
          rfl
        refine pure_ (i := 4) (N := some 91) (v := ?_) (a' := ?_) #[true, true, false, true, true, false, false, false, false, false, false, false] rfl rfl (by kernel_rfl) (fun _ _ _ h => h) (Or.inl ⟨by rfl, ?_⟩) ?_ ?_
        rotate_left
        · intro w'
          go_simp
          with_reducible rfl
        rotate_left
        · simp only [Act.put, List.setIfInBounds_toArray, List.set_cons_zero, List.set_cons_succ, i64_w, i32_w]
          rfl
        refine pure_ (i := 8) (N := some 95) (v := ?_) (a' := ?_) #[true, true, false, true, true, false, false, false, true, false, false, false] rfl rfl (by kernel_rfl) (fun _ _ _ h => h) (Or.inl ⟨by rfl, ?_⟩) ?_ ?_
        rotate_left
        · intro w'
          go_simp
          with_reducible rfl
        rotate_left
        · simp only [Act.put, List.setIfInBounds_toArray, List.set_cons_zero, List.set_cons_succ, i64_w, i32_w]
          rfl
        refine pure_ (i := 9) (N := some 96) (v := ?_) (a' := ?_) #[true, true, false, true, true, false, false, false, true, true, false, false] rfl rfl (by kernel_rfl) (fun _ _ _ h => h) (Or.inl ⟨by rfl, ?_⟩) ?_ ?_
        rotate_left
        · intro w'
          go_simp
          with_reducible rfl
        rotate_left
        · simp only [Act.put, List.setIfInBounds_toArray, List.set_cons_zero, List.set_cons_succ, i64_w, i32_w]
          rfl
        refine take_ (i := 2) (N := some 89) (v := ?_) (a' := ?_) #[true, true, true, true, true, false, false, false, true, true, false, false] rfl rfl (by kernel_rfl) (fun _ _ _ h => h) (Or.inl ⟨by rfl, ?_⟩) hHeld ?_ ?_
        rotate_left
        · rintro w' ⟨s0, s1⟩
          go_simp
          with_reducible rfl
        rotate_left
        · simp only [Act.put, List.setIfInBounds_toArray, List.set_cons_zero, List.set_cons_succ, i64_w, i32_w]
          rfl
        refine take_ (i := 5) (N := some 92) (v := ?_) (a' := ?_) #[true, true, true, true, true, true, false, false, true, true, false, false] rfl rfl (by kernel_rfl) (fun _ _ _ h => h) (Or.inl ⟨by rfl, ?_⟩) hHeld ?_ ?_
        rotate_left
        · rintro w' ⟨s0, s1⟩
          go_simp
          with_reducible rfl
        rotate_left
        · simp only [Act.put, List.setIfInBounds_toArray, List.set_cons_zero, List.set_cons_succ, i64_w, i32_w]
          rfl
        refine pure_ (i := 6) (N := some 93) (v := ?_) (a' := ?_) #[true, true, true, true, true, true, true, false, true, true, false, false] rfl rfl (by kernel_rfl) (fun _ _ _ h => h) (Or.inl ⟨by rfl, ?_⟩) ?_ ?_
        rotate_left
        · intro w'
          go_simp
          with_reducible rfl
        rotate_left
        · simp only [Act.put, List.setIfInBounds_toArray, List.set_cons_zero, List.set_cons_succ, i64_w, i32_w]
          rfl
        refine one_ (i := 7) (N := some 94) #[true, true, true, true, true, true, true, true, true, true, false, false] rfl rfl (by kernel_rfl) (by decide) (fun K hK => ?_)
        refine goes_ Try.func20 (by kernel_rfl) rfl #[.slice (some ⟨fb, 0, none⟩) na 16] (by rfl) rfl rfl (by simp only [List.map_toArray, List.map_cons, List.map_nil]; rfl) ?_
        with_reducible refine (exec_machine_call.clone r na fb s _ HLP.out.p.fm hna16).mono ?_
        rintro e w3 ⟨v0, rfl, hr3, hb3⟩
        refine ⟨_, rfl, ?_⟩
        have HLP := Aside0.mk (HLP.out.call (HLP.out.p.st.below hb3) (Rn.Fr.of hb3 HLP.out.p.st.hb))
        have y2 := (hb3.cell (World.block_lt_of_cell? _ _ y2)).trans y2
        have y4 := (hb3.cell (World.block_lt_of_cell? _ _ y4)).trans y4
        have HX := Aside0.mk ((hb3.block xb hxlt).trans HX.out)
        obtain ⟨Av, cv2, rfl, hle3, hC3⟩ := Kd.R_reads hr3
        have HC := Aside0.mk (HIH.out gk (by omega) xname (r.take na) (deep + 1) (Rn.tick mm) .out m1 hcall W0 w3 gm (some ad) c tq Av cv2 HMOD.out hmc (B0.out.trans HLP.out.fr.b) HLP.out.p.st hC3 hle3 (by omega))
        clear hr3 hb3 hle3 hC3
        refine hK.out _ _ ⟨y4, y2⟩ (fun hHeld => ?_)
        clear hK K
        refine norm_ (a' := ?_) ?_ ?_
        rotate_left
        · show Act.put _ (some 94) _ = _
          simp only [Act.put, List.setIfInBounds_toArray, List.set_cons_zero, List.set_cons_succ, i64_w, i32_w]
          rfl
        refine last_ (i := 10) (N := some 97) #[true, true, true, true, true, true, true, true, true, true, true, false] rfl rfl (by kernel_rfl) (by decide) (fun K hK => ?_)
        refine Ex.goesP_ Try.func19 (by kernel_rfl) rfl #[.pointer (some ⟨gm, 0, none⟩), .string xname, .slice Av (r.take na).length cv2, .int .i64 (wrap64 (deep + 1))] (by rfl) rfl rfl (by simp only [List.map_toArray, List.map_cons, List.map_nil]; rfl) ?_
        rw [Hw.w64 (deep + 1) (by omega) (by omega)]
        with_reducible refine HC.out.mono ?_
        rintro e w9 ⟨rfl, tq9, hs9, hf9⟩
        have HLP := Aside0.mk (HLP.out.call hs9 hf9)
        dsimp only [Ex.ending, Ex.Up]
        go_wp2_with (fail)
        exact ⟨rfl, rfl, _, HLP.out.p.st, HLP.out.fr⟩
    -- CASE 12
    by_cases o12 : xop = 12
    · as_aux_lemma =>
      subst o12
      have hgo := HGO.out
      rw [Ex.go12 (Int.not_le.2 HST.out)] at hgo
      simp only [Rn.blk] at hgo
      by_cases hnb : 0 ≤ xa ∧ xa < (fbl.length : Int)
      case neg => rw [if_neg hnb] at hgo; cases hgo
      rw [if_pos hnb] at hgo
      obtain ⟨nb, rfl⟩ : ∃ n : Nat, xa = (n : Int) := ⟨xa.toNat, by omega⟩
      rw [Int.toNat_natCast] at hgo
      have lnb : nb < fbl.length := by omega
      obtain ⟨adnb, Ainb, cinb, eanb, dnb, hilnb, hiCnb⟩ := Rn.at_B HBC.out nb lnb
      cases eanb
      have dnb := ((B0.out.trans HLP.out.fr.b).cell (World.block_lt_of_cell? W0 _ dnb)).trans dnb
      have HInb := Aside0.mk hiCnb
      have znb : (nb : Int) < (fbl.length : Int) := by omega
      clear hnb hiCnb
      generalize fbl.getD nb [] = tg at hgo dnb hilnb HInb
      have HGO2 := Aside0.mk hgo
      clear hgo HGO
      go_wp2_with (fail)
      go_roundg gk
      case measure => omega
      case rel => exact ⟨tg, r, s, Rn.tick mm, tq, Ainb, cinb, rfl, hilnb, by omega, HInb, HGO2, HLP⟩
    -- CASE 13
    by_cases o13 : xop = 13
    · as_aux_lemma =>
      subst o13
      have hgo := HGO.out
      rw [Ex.go13 (Int.not_le.2 HST.out)] at hgo
      simp only [Rn.blk, Rn.get] at hgo
      by_cases hnb : 0 ≤ xd ∧ xd < (fbl.length : Int)
      case neg => rw [if_neg hnb] at hgo; cases hgo
      rw [if_pos hnb] at hgo
      obtain ⟨nb, rfl⟩ : ∃ n : Nat, xd = (n : Int) := ⟨xd.toNat, by omega⟩
      rw [Int.toNat_natCast] at hgo
      have lnb : nb < fbl.length := by omega
      obtain ⟨adnb, Ainb, cinb, eanb, dnb, hilnb, hiCnb⟩ := Rn.at_B HBC.out nb lnb
      cases eanb
      have dnb := ((B0.out.trans HLP.out.fr.b).cell (World.block_lt_of_cell? W0 _ dnb)).trans dnb
      have HInb := Aside0.mk hiCnb
      have znb : (nb : Int) < (fbl.length : Int) := by omega
      clear hnb hiCnb
      generalize fbl.getD nb [] = tg at hgo dnb hilnb HInb
      by_cases hna : 0 ≤ xa ∧ xa < (r.length : Int)
      case neg => rw [if_neg hna] at hgo; cases hgo
      rw [if_pos hna] at hgo
      obtain ⟨na, rfl⟩ : ∃ n : Nat, xa = (n : Int) := ⟨xa.toNat, by omega⟩
      rw [Int.toNat_natCast] at hgo
      have lna : na < 16 := by omega
      have cna := HLP.out.p.fm.cr na lna
      have zna : (na : Int) < 16 := by omega
      clear hna
      generalize r.getD na 0 = v at cna hgo
      by_cases hv : v = 0
      · rw [if_pos hv] at hgo
        have HGO2 := Aside0.mk hgo
        clear hgo HGO
        subst hv
        go_wp2_with (fail)
        go_roundg gk
        case measure => omega
        case rel => exact ⟨tg, r, s, Rn.tick mm, tq, Ainb, cinb, rfl, hilnb, by omega, HInb, HGO2, HLP⟩
      · rw [if_neg hv] at hgo
        by_cases hnc : 0 ≤ xbb ∧ xbb < (fbl.length : Int)
        case neg => rw [if_neg hnc] at hgo; cases hgo
        rw [if_pos hnc] at hgo
        obtain ⟨nc, rfl⟩ : ∃ n : Nat, xbb = (n : Int) := ⟨xbb.toNat, by omega⟩
        rw [Int.toNat_natCast] at hgo
        have lnc : nc < fbl.length := by omega
        obtain ⟨adnc, Ainc, cinc, eanc, dnc, hilnc, hiCnc⟩ := Rn.at_B HBC.out nc lnc
        cases eanc
        have dnc := ((B0.out.trans HLP.out.fr.b).cell (World.block_lt_of_cell? W0 _ dnc)).trans dnc
        have HInc := Aside0.mk hiCnc
        have znc : (nc : Int) < (fbl.length : Int) := by omega
        clear hnc hiCnc
        generalize fbl.getD nc [] = th at hgo dnc hilnc HInc
        have HGO2 := Aside0.mk hgo
        have hv2 : decide (v = 0) = false := decide_eq_false hv
        clear hgo HGO
        go_wp2_with (fail)
        go_roundg gk
        case measure => omega
        case rel => exact ⟨th, r, s, Rn.tick mm, tq, Ainc, cinc, rfl, hilnc, by omega, HInc, HGO2, HLP⟩
    -- CASE 14
    by_cases o14 : xop = 14
    · as_aux_lemma =>
      subst o14
      have hgo := HGO.out
      rw [Ex.go14 (Int.not_le.2 HST.out)] at hgo
      simp only [Rn.get] at hgo
      by_cases hna : 0 ≤ xa ∧ xa < (r.length : Int)
      case neg => rw [if_neg hna] at hgo; cases hgo
      rw [if_pos hna] at hgo
      obtain ⟨na, rfl⟩ : ∃ n : Nat, xa = (n : Int) := ⟨xa.toNat, by omega⟩
      rw [Int.toNat_natCast] at hgo
      have lna : na < 16 := by omega
      have cna := HLP.out.p.fm.cr na lna
      have zna : (na : Int) < 16 := by omega
      clear hna
      generalize r.getD na 0 = v at cna hgo
      obtain ⟨rfl, rfl⟩ := Prod.mk.inj (Option.some.inj hgo)
      clear hgo HGO
      go_wp2_with (fail)
      go_ret
      exact ⟨rfl, _, HLP.out.p.st, HLP.out.fr⟩
    -- CASE 0
    as_aux_lemma =>
    have hgo := HGO.out
    rw [Ex.goP (Int.not_le.2 HST.out) o11 o12 o13 o14] at hgo
    have p11 := decide_eq_false o11
    have p12 := decide_eq_false o12
    have p13 := decide_eq_false o13
    have p14 := decide_eq_false o14
    cases hpl : Ex.plain ⟨xop, xd, xa, xbb, xname, xargs⟩ r s (Rn.tick mm) with
    | none => rw [hpl] at hgo; cases hgo
    | some z =>
    rw [hpl] at hgo
    have HPL := Aside0.mk (exec_machine_plain.calls ⟨xop, xd, xa, xbb, xname, xargs⟩ r s (Rn.tick mm) z hpl W7 W0.heap.size gm fb (some ad) mod.length c fuel tq Ag cg HLP.out.p HTL.out)
    dsimp only at HPL
    clear hpl
    cases z with
    | none =>
      obtain ⟨rfl, rfl⟩ := Prod.mk.inj (Option.some.inj hgo)
      clear hgo HGO
      go_wp2_with (go_at_call 30; (with_reducible refine HPL.out.mono ?_); rintro e w9 ⟨tq9, hf9, rfl, hp9⟩; have HLP := Aside0.mk (HLP.out.plain hp9 hf9); clear hp9 hf9)
      exact ⟨rfl, rfl, _, HLP.out.p.st, HLP.out.fr⟩
    | some z =>
      obtain ⟨r9, s9, m9⟩ := z
      have HGO2 := Aside0.mk hgo
      clear hgo HGO
      go_wp2_with (go_at_call 30; (with_reducible refine HPL.out.mono ?_); rintro e w9 ⟨tq9, hf9, rfl, hp9⟩; have HLP := Aside0.mk (HLP.out.plain hp9 hf9); clear hp9 hf9)
      go_roundg gk
      case measure => omega
      case rel => exact ⟨rest, r9, s9, m9, tq9, Ar2, cr - 1, rfl, hrl2, by omega, HIR, HGO2, HLP⟩

-- NOT PRINTED: function 18 (exec_Run_1)

end Go.Proofs.Ytkjflclkjdbmoaa.PExecSlots

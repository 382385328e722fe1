-- By a program of this session (wip/tools/mkprint.py), for this claim.
import Derived.Test.YtjmgfpfdkfelhaaPRunDeepx0
import Derived.Test.YtjmgfpfdkfelhaaPRunDeepx1
namespace Go.Proofs.Ytjmgfpfdkfelhaa.PRunDeep
open Go.RowKit Go.Proofs.YtjmgfpfdkfelhaaW.PrintWords Go.Proofs.YtjmgfpfdkfelhaaW.PrintLast Go.Proofs.YtjmgfpfdkfelhaaW.PrintMore
attribute [local go_sem] max2_int min2_int max_two min_two max_three min_three max_four min_four   -- for this text's walks alone
set_option linter.unusedVariables false
set_option linter.unusedSimpArgs false

/-! ### run_machine_call: function 15 (by hand) -/
theorem run_machine_call.eq_calls (x : Rn.Fn) (cs : List Value) (nm : ByteArray) (p : Addr) (W : World) (hK : Rn.kF.K W x cs) (hn : W.cell? p = some (.string nm)) :
    Calls Try.prog 17 (#[.agg cs.toArray] ++ #[.pointer (some p)]) W fun e w' => e = .returned (.bool (decide (x.name = nm))) ∧ Below W.heap.size W w' := by
  obtain ⟨Ab, cb, rfl, _, _⟩ := Rn.open_F hK
  have hp := Hw.cell_al hn (.cells #[.string x.name, .int .i64 x.params, .int .i64 x.regs, .slice Ab x.blocks.length cb] 34)
  have HB := Aside0.mk ((Below.refl W.heap.size W).alloc (Nat.le_refl _) (.cells #[.string x.name, .int .i64 x.params, .int .i64 x.regs, .slice Ab x.blocks.length cb] 34))
  have k0 : (W.alloc (.cells #[.string x.name, .int .i64 x.params, .int .i64 x.regs, .slice Ab x.blocks.length cb] 34)).cell? ⟨W.heap.size, 0, none⟩ = some (.string x.name) := cell_of_row _ _ 0 _ _ _ (Hw.blk_nw W _)
  clear hn hK
  show Calls Try.prog 17 #[.agg #[.string x.name, .int .i64 x.params, .int .i64 x.regs, .slice Ab x.blocks.length cb], .pointer (some p)] W _
  go_enter Try.func17, Try.ntmps17
  go_wp2
  go_ret
  exact ⟨by rw [Rn.str_eq]; rfl, HB.out⟩
def run_machine_call.trapP : List PanicEntry := [{ v := .iface 47 (.agg #[]), recovered := false }]
def run_machine_call.ending : Rn.Res → Ending
  | .val v => .returned (.int .i64 v)
  | .trap => .panicked run_machine_call.trapP
  | .out => .panicked run_machine_step.outP
theorem run_machine_call.word_bits (a : Int) : Go.bits .and .i64 a 65535 = a % 65536 := by
  unfold Go.bits
  have e : (BitVec.ofInt IntKind.i64.bits a &&& BitVec.ofInt IntKind.i64.bits 65535).toNat = (a % 18446744073709551616).toNat % 65536 := by
    rw [BitVec.toNat_and, BitVec.toNat_ofInt, BitVec.toNat_ofInt]
    have h1 : ((65535 : Int) % ((2 ^ IntKind.i64.bits : Nat) : Int)).toNat = 2 ^ 16 - 1 := by decide
    have h2 : ((2 ^ IntKind.i64.bits : Nat) : Int) = 18446744073709551616 := by decide
    rw [h1, h2, Nat.and_two_pow_sub_one_eq_mod]
  simp only [e]
  rw [IntKind.wrap_i64]
  omega
theorem run_machine_call.word_f (a : Int) : run_Word.f a = some (a % 65536) := by unfold run_Word.f; rw [run_machine_call.word_bits]
theorem run_machine_call.op_f (o a b : Int) : run_Op.f o a b = some (match Rn.opw o a b with | some v => (v, true) | none => (0, false)) := by
  have ha1 := Int.emod_nonneg a (show (65536 : Int) ≠ 0 by decide)
  have ha2 := Int.emod_lt_of_pos a (show (0 : Int) < 65536 by decide)
  have hb1 := Int.emod_nonneg b (show (65536 : Int) ≠ 0 by decide)
  have hb2 := Int.emod_lt_of_pos b (show (0 : Int) < 65536 by decide)
  have hm : 0 ≤ a % 65536 * (b % 65536) ∧ a % 65536 * (b % 65536) ≤ 65536 * 65536 := ⟨Int.mul_nonneg ha1 hb1, Int.mul_le_mul (by omega) (by omega) hb1 (by omega)⟩
  unfold run_Op.f Rn.opw
  simp only [run_machine_call.word_f, Option.bind_some]
  rw [Hw.w64 (a % 65536 + b % 65536) (by omega) (by omega), Hw.w64 (a % 65536 - b % 65536) (by omega) (by omega), Hw.w64 (a % 65536 * (b % 65536)) (by omega) (by omega)]
  by_cases o3 : o = 3
  · subst o3; rfl
  rw [if_neg o3, if_neg o3]
  by_cases o4 : o = 4
  · subst o4; rfl
  rw [if_neg o4, if_neg o4]
  by_cases o5 : o = 5
  · subst o5; rfl
  rw [if_neg o5, if_neg o5]
  by_cases o6 : o = 6
  · rw [if_pos o6, if_pos o6]
    by_cases hl : a % 65536 < b % 65536
    · rw [if_pos hl, if_pos hl]
    · rw [if_neg hl, if_neg hl]
  rw [if_neg o6, if_neg o6]
  by_cases o7 : o = 7
  · rw [if_pos o7]
    by_cases hz : b % 65536 = 0
    · rw [if_pos hz, if_neg (fun q => q.2 hz)]
    · rw [if_neg hz, if_pos ⟨o7, hz⟩, Int.tdiv_eq_ediv_of_nonneg ha1]
      have h1 := Int.ediv_nonneg ha1 hb1
      have h2 := Int.ediv_le_self (b % 65536) ha1
      rw [Hw.w64 _ (by omega) (by omega)]
  · rw [if_neg o7, if_neg (fun q => o7 q.1)]
theorem run_machine_call.op_calls (o a b : Int) (w : World) : Calls Try.prog 7 #[.int .i64 o, .int .i64 a, .int .i64 b] w fun e w' => e = .returned (.tuple (match Rn.opw o a b with | some v => #[.int .i64 v, .bool true] | none => #[.int .i64 0, .bool false])) ∧ ∃ m, w' = w.drewN m := by
  have h := run_machine_call.op_f o a b
  cases e : Rn.opw o a b with
  | none =>
    rw [e] at h
    refine (run_Op.calls o a b 0 false w h).mono ?_
    rintro e w' ⟨h1, h2⟩
    exact ⟨h1, h2.out⟩
  | some v =>
    rw [e] at h
    refine (run_Op.calls o a b v true w h).mono ?_
    rintro e w' ⟨h1, h2⟩
    exact ⟨h1, h2.out⟩
/-- What a call comes to. -/
def run_machine_call.Law (mod : List Rn.Fn) (fuel : Int) (g : Nat) : Prop := ∀ (name : ByteArray) (vs : List Int) (deep : Int) (m : Rn.M) (q : Rn.Res) (m' : Rn.M), Rn.call mod fuel g name vs deep m = some (q, m') → ∀ (W0 W : World) (gm : Nat) (A : Option Addr) (c : Nat) (tv : Value) (Av : Option Addr) (cv : Nat),
    Rn.kF.C W0 A mod.length mod → mod.length ≤ c → Below W0.heap.size W0 W → Rn.St W W0.heap.size gm A mod.length c fuel m tv → (Kd.int .i64).C W Av vs.length vs → vs.length ≤ cv → (0 ≤ deep ∧ deep ≤ 1000) →
    Calls Try.prog 15 #[.pointer (some ⟨gm, 0, none⟩), .string name, .slice Av vs.length cv, .int .i64 deep] W fun e w' => e = run_machine_call.ending q ∧ ∃ tv', Rn.St w' W0.heap.size gm A mod.length c fuel m' tv' ∧ Rn.Fr W0.heap.size gm tv tv' W w'
set_option maxHeartbeats 16000000 in
set_option maxRecDepth 100000 in
theorem run_machine_call.calls (mod : List Rn.Fn) (fuel : Int) (g : Nat) : run_machine_call.Law mod fuel g := by
  induction g using Nat.strongRecOn with
  | ind g IH => ?_
  intro name vs deep m q m' hgo W0 W gm A c tv Av cv hmod hmc hb0 hst hvs hvc hdp
  have HIH := Aside0.mk IH
  have HMOD := Aside0.mk hmod
  have B0 := Aside0.mk hb0
  have HGO := Aside0.mk hgo
  have hw0 := hb0.size
  have hgm : gm < W.heap.size := (Array.getElem?_eq_some_iff.1 hst.ob).1
  -- ahead of the look
  obtain ⟨W1, hW1⟩ : ∃ W1, W.alloc (.cells #[.string name] 9) = W1 := ⟨_, rfl⟩
  have hnm : W1.cell? ⟨W.heap.size, 0, none⟩ = some (.string name) := by rw [← hW1]; exact cell_of_row _ _ 0 _ _ _ (Hw.blk_nw W _)
  have hs1 : W.heap.size < W1.heap.size := by rw [← hW1]; simp
  have HS := Aside0.mk (hst.alloc (.cells #[.string name] 9))
  have HV := Aside0.mk (Kd.C_below hvs ((Below.refl W.heap.size W).alloc (Nat.le_refl _) (.cells #[.string name] 9)))
  have HF := Aside0.mk ((Rn.Fr.refl W0.heap.size gm tv W).alloc hw0 (.cells #[.string name] 9))
  rw [hW1] at HS HV HF
  have hIX := api_Func.callsP name 17 #[.pointer (some ⟨W.heap.size, 0, none⟩)] (fun _ _ => by kernel_rfl) A c mod W1 (Kd.C_below hmod (hb0.trans HF.out.b)) hmc (fun W2 x cs hK hb => run_machine_call.eq_calls x cs name _ W2 hK ((hb.cell (p := ⟨W.heap.size, 0, none⟩) hs1).trans hnm))
  have hmf : ∀ (fn : Fn) (first cap : Array Value) (w : World), (Instr.makeFunc fn first cap).run Try.prog w = .ok (.func fn first cap) w := fun _ _ _ _ => rfl
  have k0 := HS.out.at0
  clear hgo hmod hst hvs IH hb0 hnm hs1
  rcases Rn.ix_cases mod name with hix | ⟨i, hi, hix⟩
  · have HGO := HGO.out
    unfold Rn.call Rn.ok at HGO
    rw [hix] at HGO hIX
    rw [if_neg (by simp)] at HGO
    obtain ⟨rfl, rfl⟩ := Prod.mk.inj (Option.some.inj HGO)
    obtain ⟨kx, hkx⟩ : ∃ kx : Int, -1 = kx := ⟨_, rfl⟩
    rw [hkx] at hIX
    have HIX := Aside0.mk hIX
    have hneg : kx < 0 := by omega
    have hneg2 : decide (kx < 0) = true := decide_eq_true hneg
    clear HGO hix hIX hkx
    go_enter Try.func15, Try.ntmps15
    go_wp2_with (go_at_call 16; (with_reducible refine HIX.out.mono ?_); rintro e w2 ⟨rfl, hb2⟩; have HF := Aside0.mk (HF.out.trans (Rn.Fr.of hb2 HS.out.hb)); have HS := Aside0.mk (HS.out.below hb2); have k0 := HS.out.at0; clear hb2)
    exact ⟨rfl, rfl, _, HS.out, HF.out⟩
  obtain ⟨ad, Ab, cb, rfl, c0, c1, c2, c3, hbl, hbC⟩ := Rn.at_F HMOD.out i hi
  have KX : Aside0 (∀ W2, Below W0.heap.size W0 W2 → W2.cell? (ad.add (i * 4)) = some (.string (mod.getD i Rn.zF).name) ∧ W2.cell? ⟨(ad.add (i * 4)).block, (ad.add (i * 4)).off + 1, none⟩ = some (.int .i64 (mod.getD i Rn.zF).params) ∧ W2.cell? ⟨(ad.add (i * 4)).block, (ad.add (i * 4)).off + 2, none⟩ = some (.int .i64 (mod.getD i Rn.zF).regs) ∧ W2.cell? ⟨(ad.add (i * 4)).block, (ad.add (i * 4)).off + 3, none⟩ = some (.slice Ab (mod.getD i Rn.zF).blocks.length cb)) := ⟨fun W2 hb => ⟨(hb.cell (World.block_lt_of_cell? W0 _ c0)).trans c0, (hb.cell (World.block_lt_of_cell? W0 _ c1)).trans c1, (hb.cell (World.block_lt_of_cell? W0 _ c2)).trans c2, (hb.cell (World.block_lt_of_cell? W0 _ c3)).trans c3⟩⟩
  have HBC := Aside0.mk hbC
  rw [hix] at hIX
  have HIX := Aside0.mk hIX
  have HGO : Aside0 ((if Rn.ok mod (i : Int) vs.length deep = true then if 0 ≤ (mod.getD i Rn.zF).regs ∧ (mod.getD i Rn.zF).regs ≤ 100000 then Rn.blk (mod.getD i Rn.zF).blocks 0 fun b => Rn.go mod fuel g (mod.getD i Rn.zF).blocks (Rn.entry (mod.getD i Rn.zF) vs) b deep m else none else some (Rn.Res.trap, m)) = some (q, m')) := ⟨by
    have h := HGO.out
    unfold Rn.call at h
    rw [hix] at h
    exact h⟩
  have hok : Rn.ok mod (i : Int) vs.length deep = decide ((mod.getD i Rn.zF).params = (vs.length : Int) ∧ deep < 32) := by
    unfold Rn.ok
    rw [Int.toNat_natCast]
    simp
  rw [hok] at HGO
  clear c0 c1 c2 c3 hbC hIX hix hok
  generalize mod.getD i Rn.zF = F at KX HBC HGO hbl
  have hilt : (i : Int) < (mod.length : Int) := by omega
  by_cases hpar : F.params = (vs.length : Int)
  case neg =>
    obtain ⟨rfl, rfl⟩ := Prod.mk.inj (Option.some.inj ((if_neg (by simp [hpar])).symm.trans HGO.out))
    have hpar2 : decide (F.params = (vs.length : Int)) = false := decide_eq_false hpar
    clear HGO
    go_enter Try.func15, Try.ntmps15
    go_wp2_with (go_at_call 16; (with_reducible refine HIX.out.mono ?_); rintro e w2 ⟨rfl, hb2⟩; have HF := Aside0.mk (HF.out.trans (Rn.Fr.of hb2 HS.out.hb)); have HS := Aside0.mk (HS.out.below hb2); have k0 := HS.out.at0; obtain ⟨c0, c1, c2, c3⟩ := KX.out _ (B0.out.trans HF.out.b); clear hb2)
    exact ⟨rfl, rfl, _, HS.out, HF.out⟩
  by_cases hdeep : deep < 32
  case neg =>
    obtain ⟨rfl, rfl⟩ := Prod.mk.inj (Option.some.inj ((if_neg (by simp [hdeep])).symm.trans HGO.out))
    have hdeep2 : decide ((32 : Int) ≤ deep) = true := decide_eq_true (by omega)
    clear HGO
    go_enter Try.func15, Try.ntmps15
    go_wp2_with (go_at_call 16; (with_reducible refine HIX.out.mono ?_); rintro e w2 ⟨rfl, hb2⟩; have HF := Aside0.mk (HF.out.trans (Rn.Fr.of hb2 HS.out.hb)); have HS := Aside0.mk (HS.out.below hb2); have k0 := HS.out.at0; obtain ⟨c0, c1, c2, c3⟩ := KX.out _ (B0.out.trans HF.out.b); clear hb2)
    exact ⟨rfl, rfl, _, HS.out, HF.out⟩
  have HG1 := Aside0.mk ((if_pos (by simp [hpar, hdeep])).symm.trans HGO.out)
  clear HGO
  by_cases hreg : 0 ≤ F.regs ∧ F.regs ≤ 100000
  case neg =>
    have := HG1.out
    rw [if_neg hreg] at this
    cases this
  have HG2 := Aside0.mk ((if_pos hreg).symm.trans HG1.out)
  clear HG1
  obtain ⟨fname, fpar, freg, fbl⟩ := F
  dsimp only at KX HBC HG2 hbl hpar hreg
  by_cases hb0l : 0 < fbl.length
  case neg =>
    have := HG2.out
    unfold Rn.blk at this
    rw [if_neg (by omega)] at this
    cases this
  obtain ⟨R, rfl⟩ : ∃ R : Nat, freg = (R : Int) := ⟨freg.toNat, by omega⟩
  have hR : R ≤ 100000 := by omega
  have HGO : Aside0 (Rn.go mod fuel g fbl (vs.take R ++ List.replicate (R - vs.length) 0) (fbl.getD 0 []) deep m = some (q, m')) := ⟨by
    have h := HG2.out
    unfold Rn.blk at h
    rw [if_pos (by omega)] at h
    exact h⟩
  clear HG2
  obtain ⟨adb, Ai, ci, rfl, d0, hil, hiC⟩ := Rn.at_B HBC.out 0 hb0l
  generalize fbl.getD 0 [] = blk0 at HGO d0 hil hiC
  have KB : Aside0 (∀ W2, Below W0.heap.size W0 W2 → W2.cell? adb = some (.slice Ai blk0.length ci)) := ⟨fun W2 hb => (hb.cell (World.block_lt_of_cell? W0 _ d0)).trans d0⟩
  have HIC := Aside0.mk hiC
  clear d0 hiC hreg
  have hdeep2 : decide ((32 : Int) ≤ deep) = false := decide_eq_false (by omega)
  have hpar2 : decide (fpar = (vs.length : Int)) = true := decide_eq_true hpar
  go_enter Try.func15, Try.ntmps15
  go_upto_region 5 with (go_at_call 16; (with_reducible refine HIX.out.mono ?_); rintro e w2 ⟨rfl, hb2⟩; have HF := Aside0.mk (HF.out.trans (Rn.Fr.of hb2 HS.out.hb)); have HV := Aside0.mk (Kd.C_below HV.out hb2); have HS := Aside0.mk (HS.out.below hb2); have k0 := HS.out.at0; obtain ⟨c0, c1, c2, c3⟩ := KX.out _ (B0.out.trans HF.out.b); clear hb2)
  have HK := Aside0.mk (Hw.blk_nw w2 (.cells #[.string fname, .int .i64 (vs.length : Int), .int .i64 (R : Int), .slice (some adb) fbl.length cb] 34))
  have hfb : W.heap.size ≤ w2.heap.size := HF.out.b.size
  have hft : ∀ k, some k = tv.ownBlock → k < w2.heap.size := fun k hk => by
    obtain ⟨_, ho⟩ := Kd.R_own HS.out.tr
    exact own_lt ho k hk.symm
  have HF := Aside0.mk (HF.out.alloc HS.out.hb (.cells #[.string fname, .int .i64 (vs.length : Int), .int .i64 (R : Int), .slice (some adb) fbl.length cb] 34))
  have HV := Aside0.mk (Kd.C_below HV.out ((Below.refl w2.heap.size w2).alloc (Nat.le_refl _) (.cells #[.string fname, .int .i64 (vs.length : Int), .int .i64 (R : Int), .slice (some adb) fbl.length cb] 34)))
  have HS := Aside0.mk (HS.out.alloc (.cells #[.string fname, .int .i64 (vs.length : Int), .int .i64 (R : Int), .slice (some adb) fbl.length cb] 34))
  have hs3 : (w2.alloc (.cells #[.string fname, .int .i64 (vs.length : Int), .int .i64 (R : Int), .slice (some adb) fbl.length cb] 34)).heap.size = w2.heap.size + 1 := by simp
  generalize w2.heap.size = fb at HK hfb hft hs3 ⊢
  generalize w2.alloc (.cells #[.string fname, .int .i64 (vs.length : Int), .int .i64 (R : Int), .slice (some adb) fbl.length cb] 34) = W3 at HK HF HV HS hs3 ⊢
  have f2 : W3.cell? ⟨fb, 2, none⟩ = some (.int .i64 (R : Int)) := cell_of_row W3 fb 2 _ _ _ HK.out
  have hmk := (Rn.made W3 R).resolve_right (by omega)
  rw [hs3] at hmk
  clear c0 c1 c2 c3 k0
  go_upto_region 6 with fail
  have HROW : Aside0 (Rn.Row (W3.alloc (.cells (Array.replicate R (.int .i64 0)) 3)) (fb + 1) (List.replicate R 0)) := ⟨by
    have e := Hw.blk_nw W3 (.cells (Array.replicate R (.int .i64 0)) 3)
    rw [hs3] at e
    unfold Rn.Row
    rw [e]
    simp⟩
  have HK := Aside0.mk (Hw.blk_al HK.out (.cells (Array.replicate R (.int .i64 0)) 3))
  have HF := Aside0.mk (HF.out.alloc HS.out.hb (.cells (Array.replicate R (.int .i64 0)) 3))
  have HV := Aside0.mk (Kd.C_below HV.out ((Below.refl W3.heap.size W3).alloc (Nat.le_refl _) (.cells (Array.replicate R (.int .i64 0)) 3)))
  have HS := Aside0.mk (HS.out.alloc (.cells (Array.replicate R (.int .i64 0)) 3))
  clear hmk f2 hs3
  generalize W3.alloc (.cells (Array.replicate R (.int .i64 0)) 3) = W4 at HROW HK HF HV HS ⊢
  obtain ⟨W5, vc, hcp, hrow5, hg5⟩ := Rn.copied (cv := cv) HROW.out HV.out
  have hrne : fb + 1 ≠ gm := by omega
  have hfne : fb ≠ gm := by omega
  have hrt : some (fb + 1) ≠ tv.ownBlock := fun e => by have := hft _ e; omega
  have hftn : some fb ≠ tv.ownBlock := fun e => by have := hft _ e; omega
  have HROW := Aside0.mk hrow5
  have HK := Aside0.mk ((hg5.block fb (Array.getElem?_eq_some_iff.1 HK.out).1 (by intro e; injection e with e; omega)).trans HK.out)
  have HF := Aside0.mk (HF.out.grown hg5 (by omega) (by omega) HS.out.hb)
  have HS := Aside0.mk (HS.out.grown hg5 hrne hrt)
  clear hg5 hrow5 HV hft
  have hcp2 := hcp 3
  go_upto_region 7 with fail
  have b3 : W5.cell? ⟨fb, 3, none⟩ = some (.slice (some adb) fbl.length cb) := cell_of_row W5 fb 3 _ _ _ HK.out
  have bk := KB.out W5 (B0.out.trans HF.out.b)
  have hb0z : (0 : Int) < (fbl.length : Int) := by omega
  go_upto_region 8 with fail
  have hbas : W0.heap.size ≤ W.heap.size := hw0
  have HLP : Aside0 (Rn.Lp W W5 W0.heap.size gm (some ad) mod.length c fuel tv tv fb #[.string fname, .int .i64 (vs.length : Int), .int .i64 (R : Int), .slice (some adb) fbl.length cb] m (vs.take R ++ List.replicate (R - vs.length) 0)) := ⟨HS.out, HF.out, HROW.out, HK.out, hrt, hftn, hgm, hfb, hbas⟩
  have hlen0 : (vs.take R ++ List.replicate (R - vs.length) (0 : Int)).length = R := by
    rw [List.length_append, List.length_take, List.length_replicate]
    omega
  clear HS HF HROW HK hcp hcp2 b3 bk hrt hftn HIX KX KB
  go_loopg [12] g (fun gg v12 wq => ∃ (rest : List Rn.Ins) (r : List Int) (mm : Rn.M) (tq : Value) (Ar : Option Addr) (cr : Nat), v12 = .slice Ar rest.length cr ∧ rest.length ≤ cr ∧ r.length = R ∧ gg ≤ g ∧ Aside0 (Rn.kI.C W0 Ar rest.length rest) ∧ Aside0 (Rn.go mod fuel gg fbl r rest deep mm = some (q, m')) ∧ Aside0 (Rn.Lp W wq W0.heap.size gm (some ad) mod.length c fuel tv tq fb #[.string fname, .int .i64 (vs.length : Int), .int .i64 (R : Int), .slice (some adb) fbl.length cb] mm r))
  case atStart => exact ⟨blk0, _, m, tv, Ai, ci, rfl, hil, hlen0, Nat.le_refl g, HIC, HGO, HLP⟩
  case round =>
    clear HLP HGO HIC
    obtain ⟨rest, r, mm, tq, Ar, cr, rfl, hrl, hrR, hgg, HIC, HGO, HLP⟩ := hrel
    cases gk with
    | zero => exact absurd HGO.out (by intro h; rw [Rn.go] at h; cases h)
    | succ gk =>
    by_cases hst : fuel ≤ mm.steps
    · have hgo := HGO.out
      rw [Rn.go_out hst] at hgo
      obtain ⟨rfl, rfl⟩ := Prod.mk.inj (Option.some.inj hgo)
      clear hgo HGO
      go_wp2_with (go_at_call 18; (with_reducible refine (run_machine_step.calls_out W0.heap.size gm (some ad) mod.length c fuel mm tq _ HLP.out.st hst).mono ?_); rintro e w6 ⟨rfl, hs6, hf6⟩; have HLP := Aside0.mk (HLP.out.call hs6 hf6); clear hs6 hf6)
      exact ⟨rfl, rfl, _, HLP.out.st, HLP.out.fr⟩
    cases rest with
    | nil => exact absurd HGO.out (by rw [Rn.go_nil hst]; intro h; cases h)
    | cons x rest =>
    have HST := Aside0.mk (Int.not_le.1 hst)
    obtain ⟨adx, Ag, cg, rfl, x0, x1, x2, x3, x4, x5, hgl, hgC⟩ := Rn.at_I HIC.out 0 (by simp)
    have e0 : adx.add (0 * 6) = adx := by simp [Addr.add]
    rw [e0] at x0 x1 x2 x3 x4 x5
    have KX : Aside0 (∀ W2, Below W0.heap.size W0 W2 → W2.cell? adx = some (.int .i64 x.op) ∧ W2.cell? ⟨adx.block, adx.off + 1, none⟩ = some (.int .i64 x.d) ∧ W2.cell? ⟨adx.block, adx.off + 2, none⟩ = some (.int .i64 x.a) ∧ W2.cell? ⟨adx.block, adx.off + 3, none⟩ = some (.int .i64 x.b) ∧ W2.cell? ⟨adx.block, adx.off + 4, none⟩ = some (.string x.name) ∧ W2.cell? ⟨adx.block, adx.off + 5, none⟩ = some (.slice Ag x.args.length cg)) := ⟨fun W2 hb => ⟨(hb.cell (World.block_lt_of_cell? W0 _ x0)).trans x0, (hb.cell (World.block_lt_of_cell? W0 _ x1)).trans x1, (hb.cell (World.block_lt_of_cell? W0 _ x2)).trans x2, (hb.cell (World.block_lt_of_cell? W0 _ x3)).trans x3, (hb.cell (World.block_lt_of_cell? W0 _ x4)).trans x4, (hb.cell (World.block_lt_of_cell? W0 _ x5)).trans x5⟩⟩
    have HGC : Aside0 (Kd.C (Kd.int .i64) W0 Ag x.args.length x.args) := ⟨hgC⟩
    have hgl : x.args.length ≤ cg := hgl
    clear x0 x1 x2 x3 x4 x5 hgC e0
    have HIR := Aside0.mk (Rn.rest_C HIC.out hrl)
    have hsl := fun (W2 : World) => Rn.rest W2 (some adx) rest.length cr
    have hrl2 : rest.length ≤ cr - 1 := by
      have : rest.length + 1 ≤ cr := hrl
      omega
    have HGO : Aside0 (Rn.go mod fuel (gk + 1) fbl r (x :: rest) deep mm = some (q, m')) := HGO
    obtain ⟨xop, xd, xa, xbb, xname, xargs⟩ := x
    dsimp only at KX HGC hgl
    simp only [List.length_cons] at hrl ⊢
    generalize (if cr = 1 then some adx else (some adx).map (·.add 6)) = Ar2 at HIR hsl
    go_upto_region 11 with (go_at_call 18; (with_reducible refine (run_machine_step.calls W0.heap.size gm (some ad) mod.length c fuel mm tq _ HLP.out.st (by omega)).mono ?_); rintro e w6 ⟨rfl, hs6, hf6⟩; have HLP := Aside0.mk (HLP.out.call hs6 hf6); clear hs6 hf6; obtain ⟨x0, x1, x2, x3, x4, x5⟩ := KX.out _ (B0.out.trans HLP.out.fr.b))
    have hxb : fb + 1 < w6.heap.size := HLP.out.row.lt
    have htx : some w6.heap.size ≠ tq.ownBlock := fun e => Nat.lt_irrefl _ (HLP.out.st.tlt _ e)
    have HX := Aside0.mk (Hw.blk_nw w6 (.cells #[.int .i64 xop, .int .i64 xd, .int .i64 xa, .int .i64 xbb, .string xname, .slice Ag xargs.length cg] 30))
    have HLP : Aside0 (Rn.Lp W (w6.alloc (.cells #[.int .i64 xop, .int .i64 xd, .int .i64 xa, .int .i64 xbb, .string xname, .slice Ag xargs.length cg] 30)) W0.heap.size gm (some ad) mod.length c fuel tv tq fb #[.string fname, .int .i64 (vs.length : Int), .int .i64 (R : Int), .slice (some adb) fbl.length cb] (Rn.tick mm) r) := ⟨HLP.out.alloc (.cells #[.int .i64 xop, .int .i64 xd, .int .i64 xa, .int .i64 xbb, .string xname, .slice Ag xargs.length cg] 30)⟩
    generalize w6.heap.size = xb at hxb htx HX ⊢
    generalize w6.alloc (.cells #[.int .i64 xop, .int .i64 xd, .int .i64 xa, .int .i64 xbb, .string xname, .slice Ag xargs.length cg] 30) = W7 at HLP HX ⊢
    have y0 : W7.cell? ⟨xb, 0, none⟩ = some (.int .i64 xop) := cell_of_row W7 xb 0 _ _ _ HX.out
    have y1 : W7.cell? ⟨xb, 1, none⟩ = some (.int .i64 xd) := cell_of_row W7 xb 1 _ _ _ HX.out
    have y2 : W7.cell? ⟨xb, 2, none⟩ = some (.int .i64 xa) := cell_of_row W7 xb 2 _ _ _ HX.out
    have y3 : W7.cell? ⟨xb, 3, none⟩ = some (.int .i64 xbb) := cell_of_row W7 xb 3 _ _ _ HX.out
    have y4 : W7.cell? ⟨xb, 4, none⟩ = some (.string xname) := cell_of_row W7 xb 4 _ _ _ HX.out
    have y5 : W7.cell? ⟨xb, 5, none⟩ = some (.slice Ag xargs.length cg) := cell_of_row W7 xb 5 _ _ _ HX.out
    have b3 : W7.cell? ⟨fb, 3, none⟩ = some (.slice (some adb) fbl.length cb) := cell_of_row W7 fb 3 _ _ _ HLP.out.hk
    clear x0 x1 x2 x3 x4 x5 KX hsl HIC
    -- CASE 1
    by_cases o1 : xop = 1
    · as_aux_lemma =>
      subst o1
      have hgo := HGO.out
      rw [Rn.go1 (Int.not_le.2 HST.out)] at hgo
      simp only [Rn.set, Rn.get, Rn.blk] at hgo
      by_cases hnd : 0 ≤ xd ∧ xd < (r.length : Int)
      case neg => rw [if_neg hnd] at hgo; cases hgo
      rw [if_pos hnd] at hgo
      obtain ⟨nd, rfl⟩ : ∃ n : Nat, xd = (n : Int) := ⟨xd.toNat, by omega⟩
      rw [Int.toNat_natCast] at hgo
      have lnd : nd < r.length := by omega
      obtain ⟨cnd, fnd⟩ := HLP.out.row.cell nd lnd
      have znd : (nd : Int) < (R : Int) := by omega
      have HGO2 := Aside0.mk hgo
      clear hgo HGO
      go_wp2_with (fail)
      go_roundg gk
      case measure => omega
      case rel => exact ⟨rest, r.set nd xa, Rn.tick mm, tq, Ar2, cr - 1, rfl, hrl2, by rw [List.length_set]; exact hrR, by omega, HIR, HGO2, ⟨HLP.out.setr nd xa⟩⟩
    -- CASE 2
    by_cases o2 : xop = 2
    · as_aux_lemma =>
      subst o2
      have hgo := HGO.out
      rw [Rn.go2 (Int.not_le.2 HST.out)] at hgo
      simp only [Rn.set, Rn.get, Rn.blk] at hgo
      by_cases hna : 0 ≤ xa ∧ xa < (r.length : Int)
      case neg => rw [if_neg hna] at hgo; cases hgo
      rw [if_pos hna] at hgo
      obtain ⟨na, rfl⟩ : ∃ n : Nat, xa = (n : Int) := ⟨xa.toNat, by omega⟩
      rw [Int.toNat_natCast] at hgo
      have lna : na < r.length := by omega
      by_cases hnd : 0 ≤ xd ∧ xd < (r.length : Int)
      case neg => rw [if_neg hnd] at hgo; cases hgo
      rw [if_pos hnd] at hgo
      obtain ⟨nd, rfl⟩ : ∃ n : Nat, xd = (n : Int) := ⟨xd.toNat, by omega⟩
      rw [Int.toNat_natCast] at hgo
      have lnd : nd < r.length := by omega
      obtain ⟨cna, fna⟩ := HLP.out.row.cell na lna
      have zna : (na : Int) < (R : Int) := by omega
      obtain ⟨cnd, fnd⟩ := HLP.out.row.cell nd lnd
      have znd : (nd : Int) < (R : Int) := by omega
      generalize r.getD na 0 = v at cna hgo
      have HGO2 := Aside0.mk hgo
      clear hgo HGO
      go_upto_region 19 with fail
      have HLP := Aside0.mk HLP.out.drew
      -- REGION 19 BEGINS
      refine start_ (n := 10) (S := fun w' => w'.cell? ⟨xb, 1, none⟩ = some (.int .i64 (nd : Int)) ∧ w'.cell? ⟨xb, 2, none⟩ = some (.int .i64 (na : Int)) ∧ w'.cell? ⟨fb + 1, na, none⟩ = some (.int .i64 v)) (ds := [9]) #[false, false, false, false, false, false, false, false, false, false] (by kernel_rfl) rfl rfl ⟨y1, y2, cna⟩ (fun hHeld => ?_)
      refine pure_ (i := 0) (N := some 108) (v := ?_) (a' := ?_) #[true, false, false, false, false, false, false, false, false, false] rfl rfl (by kernel_rfl) (fun _ _ _ h => h) (Or.inl ⟨by rfl, ?_⟩) ?_ ?_
      rotate_left
      · intro w'
        go_simp
        with_reducible rfl
      rotate_left
      · simp only [Act.put, List.setIfInBounds_toArray, List.set_cons_zero, List.set_cons_succ, i64_w, i32_w]
        rfl
      refine pure_ (i := 1) (N := some 109) (v := ?_) (a' := ?_) #[true, true, false, false, false, false, false, false, false, false] rfl rfl (by kernel_rfl) (fun _ _ _ h => h) (Or.inl ⟨by rfl, ?_⟩) ?_ ?_
      rotate_left
      · intro w'
        go_simp
        with_reducible rfl
      rotate_left
      · simp only [Act.put, List.setIfInBounds_toArray, List.set_cons_zero, List.set_cons_succ, i64_w, i32_w]
        rfl
      refine pure_ (i := 3) (N := some 111) (v := ?_) (a' := ?_) #[true, true, false, true, false, false, false, false, false, false] rfl rfl (by kernel_rfl) (fun _ _ _ h => h) (Or.inl ⟨by rfl, ?_⟩) ?_ ?_
      rotate_left
      · intro w'
        go_simp
        with_reducible rfl
      rotate_left
      · simp only [Act.put, List.setIfInBounds_toArray, List.set_cons_zero, List.set_cons_succ, i64_w, i32_w]
        rfl
      refine pure_ (i := 4) (N := some 112) (v := ?_) (a' := ?_) #[true, true, false, true, true, false, false, false, false, false] rfl rfl (by kernel_rfl) (fun _ _ _ h => h) (Or.inl ⟨by rfl, ?_⟩) ?_ ?_
      rotate_left
      · intro w'
        go_simp
        with_reducible rfl
      rotate_left
      · simp only [Act.put, List.setIfInBounds_toArray, List.set_cons_zero, List.set_cons_succ, i64_w, i32_w]
        rfl
      refine take_ (i := 2) (N := some 110) (v := ?_) (a' := ?_) #[true, true, true, true, true, false, false, false, false, false] rfl rfl (by kernel_rfl) (fun _ _ _ h => h) (Or.inl ⟨by rfl, ?_⟩) hHeld ?_ ?_
      rotate_left
      · rintro w' ⟨s0, s1, s2⟩
        go_simp
        with_reducible rfl
      rotate_left
      · simp only [Act.put, List.setIfInBounds_toArray, List.set_cons_zero, List.set_cons_succ, i64_w, i32_w]
        rfl
      refine take_ (i := 5) (N := some 113) (v := ?_) (a' := ?_) #[true, true, true, true, true, true, false, false, false, false] rfl rfl (by kernel_rfl) (fun _ _ _ h => h) (Or.inl ⟨by rfl, ?_⟩) hHeld ?_ ?_
      rotate_left
      · rintro w' ⟨s0, s1, s2⟩
        go_simp
        with_reducible rfl
      rotate_left
      · simp only [Act.put, List.setIfInBounds_toArray, List.set_cons_zero, List.set_cons_succ, i64_w, i32_w]
        rfl
      refine pure_ (i := 6) (N := some 114) (v := ?_) (a' := ?_) #[true, true, true, true, true, true, true, false, false, false] rfl rfl (by kernel_rfl) (fun _ _ _ h => h) (Or.inl ⟨by rfl, ?_⟩) ?_ ?_
      rotate_left
      · intro w'
        go_simp
        with_reducible rfl
      rotate_left
      · simp only [Act.put, List.setIfInBounds_toArray, List.set_cons_zero, List.set_cons_succ, i64_w, i32_w]
        rfl
      refine take_ (i := 7) (N := some 115) (v := ?_) (a' := ?_) #[true, true, true, true, true, true, true, true, false, false] rfl rfl (by kernel_rfl) (fun _ _ _ h => h) (Or.inl ⟨by rfl, ?_⟩) hHeld ?_ ?_
      rotate_left
      · rintro w' ⟨s0, s1, s2⟩
        go_simp
        with_reducible rfl
      rotate_left
      · simp only [Act.put, List.setIfInBounds_toArray, List.set_cons_zero, List.set_cons_succ, i64_w, i32_w]
        rfl
      refine pure_ (i := 8) (N := some 116) (v := ?_) (a' := ?_) #[true, true, true, true, true, true, true, true, true, false] rfl rfl (by kernel_rfl) (fun _ _ _ h => h) (Or.inl ⟨by rfl, ?_⟩) ?_ ?_
      rotate_left
      · intro w'
        go_simp
        with_reducible rfl
      rotate_left
      · simp only [Act.put, List.setIfInBounds_toArray, List.set_cons_zero, List.set_cons_succ, i64_w, i32_w]
        rfl
      refine last_ (i := 9) (N := none) #[true, true, true, true, true, true, true, true, true, true] rfl rfl (by kernel_rfl) (by decide) (fun K hK => ?_)
      refine skip_ (w1 := ?_) (by rfl) rfl ?_ ?_
      rotate_left
      · go_simp
        rfl
      refine hK.out _ _ ?_
      clear hK K
      refine done_ (by kernel_rfl) ?_
      -- REGION 19 ENDS
      go_wp2_with (fail)
      go_roundg gk
      case measure => omega
      case rel => exact ⟨rest, r.set nd v, Rn.tick mm, tq, Ar2, cr - 1, rfl, hrl2, by rw [List.length_set]; exact hrR, by omega, HIR, HGO2, ⟨HLP.out.setr nd v⟩⟩
    -- CASE 8
    by_cases o8 : xop = 8
    · as_aux_lemma =>
      subst o8
      have hgo := HGO.out
      rw [Rn.go8 (Int.not_le.2 HST.out)] at hgo
      simp only [Rn.set, Rn.get, Rn.blk] at hgo
      by_cases hna : 0 ≤ xa ∧ xa < (r.length : Int)
      case neg => rw [if_neg hna] at hgo; cases hgo
      rw [if_pos hna] at hgo
      obtain ⟨na, rfl⟩ : ∃ n : Nat, xa = (n : Int) := ⟨xa.toNat, by omega⟩
      rw [Int.toNat_natCast] at hgo
      have lna : na < r.length := by omega
      obtain ⟨cna, fna⟩ := HLP.out.row.cell na lna
      have zna : (na : Int) < (R : Int) := by omega
      generalize r.getD na 0 = v at cna hgo
      by_cases hv0 : 0 ≤ v
      case neg => rw [if_neg hv0] at hgo; cases hgo
      rw [if_pos hv0] at hgo
      obtain ⟨nv, rfl⟩ : ∃ n : Nat, v = (n : Int) := ⟨v.toNat, by omega⟩
      have etm : (nv : Int).tmod 256 = ((nv % 256 : Nat) : Int) := by rw [Int.tmod_eq_emod_of_nonneg (by omega)]; rfl
      have enm : ((nv : Int) % 256).toNat = nv % 256 := by omega
      rw [enm] at hgo
      have hm256 : nv % 256 < 256 := Nat.mod_lt _ (by decide)
      clear enm
      generalize nv % 256 = km at etm hgo hm256
      have zkm : (km : Int) < 256 := by omega
      have cmm : W7.cell? ⟨gm, 1 + km, none⟩ = some (.int .i64 (mm.mem.getD km 0)) := HLP.out.st.atm km hm256
      have hgo : (if 0 ≤ xd ∧ xd < (r.length : Int) then (fun r => Rn.go mod fuel gk fbl r rest deep (Rn.tick mm)) (r.set xd.toNat (mm.mem.getD km 0)) else none) = some (q, m') := hgo
      by_cases hnd : 0 ≤ xd ∧ xd < (r.length : Int)
      case neg => rw [if_neg hnd] at hgo; cases hgo
      rw [if_pos hnd] at hgo
      obtain ⟨nd, rfl⟩ : ∃ n : Nat, xd = (n : Int) := ⟨xd.toNat, by omega⟩
      rw [Int.toNat_natCast] at hgo
      have lnd : nd < r.length := by omega
      obtain ⟨cnd, fnd⟩ := HLP.out.row.cell nd lnd
      have znd : (nd : Int) < (R : Int) := by omega
      generalize mm.mem.getD km 0 = u at cmm hgo
      have HGO2 := Aside0.mk hgo
      clear hgo HGO
      go_upto_region 21 with fail
      have HLP := Aside0.mk HLP.out.drew
      -- REGION 21 BEGINS
      refine start_ (n := 16) (S := fun w' => w'.cell? ⟨xb, 1, none⟩ = some (.int .i64 (nd : Int)) ∧ w'.cell? ⟨xb, 2, none⟩ = some (.int .i64 (na : Int)) ∧ w'.cell? ⟨fb + 1, na, none⟩ = some (.int .i64 (nv : Int)) ∧ w'.cell? ⟨gm, 1 + km, none⟩ = some (.int .i64 u)) (ds := [15]) #[false, false, false, false, false, false, false, false, false, false, false, false, false, false, false, false] (by kernel_rfl) rfl rfl ⟨y1, y2, cna, cmm⟩ (fun hHeld => ?_)
      refine pure_ (i := 0) (N := some 119) (v := ?_) (a' := ?_) #[true, false, false, false, false, false, false, false, false, false, false, false, false, false, false, false] rfl rfl (by kernel_rfl) (fun _ _ _ h => h) (Or.inl ⟨by rfl, ?_⟩) ?_ ?_
      rotate_left
      · intro w'
        go_simp
        with_reducible rfl
      rotate_left
      · simp only [Act.put, List.setIfInBounds_toArray, List.set_cons_zero, List.set_cons_succ, i64_w, i32_w]
        rfl
      refine pure_ (i := 1) (N := some 120) (v := ?_) (a' := ?_) #[true, true, false, false, false, false, false, false, false, false, false, false, false, false, false, false] rfl rfl (by kernel_rfl) (fun _ _ _ h => h) (Or.inl ⟨by rfl, ?_⟩) ?_ ?_
      rotate_left
      · intro w'
        go_simp
        with_reducible rfl
      rotate_left
      · simp only [Act.put, List.setIfInBounds_toArray, List.set_cons_zero, List.set_cons_succ, i64_w, i32_w]
        rfl
      refine pure_ (i := 3) (N := some 122) (v := ?_) (a' := ?_) #[true, true, false, true, false, false, false, false, false, false, false, false, false, false, false, false] rfl rfl (by kernel_rfl) (fun _ _ _ h => h) (Or.inl ⟨by rfl, ?_⟩) ?_ ?_
      rotate_left
      · intro w'
        go_simp
        with_reducible rfl
      rotate_left
      · simp only [Act.put, List.setIfInBounds_toArray, List.set_cons_zero, List.set_cons_succ, i64_w, i32_w]
        rfl
      refine pure_ (i := 4) (N := some 123) (v := ?_) (a' := ?_) #[true, true, false, true, true, false, false, false, false, false, false, false, false, false, false, false] rfl rfl (by kernel_rfl) (fun _ _ _ h => h) (Or.inl ⟨by rfl, ?_⟩) ?_ ?_
      rotate_left
      · intro w'
        go_simp
        with_reducible rfl
      rotate_left
      · simp only [Act.put, List.setIfInBounds_toArray, List.set_cons_zero, List.set_cons_succ, i64_w, i32_w]
        rfl
      refine pure_ (i := 5) (N := some 124) (v := ?_) (a' := ?_) #[true, true, false, true, true, true, false, false, false, false, false, false, false, false, false, false] rfl rfl (by kernel_rfl) (fun _ _ _ h => h) (Or.inl ⟨by rfl, ?_⟩) ?_ ?_
      rotate_left
      · intro w'
        go_simp
        with_reducible rfl
      rotate_left
      · simp only [Act.put, List.setIfInBounds_toArray, List.set_cons_zero, List.set_cons_succ, i64_w, i32_w]
        rfl
      refine pure_ (i := 10) (N := some 129) (v := ?_) (a' := ?_) #[true, true, false, true, true, true, false, false, false, false, true, false, false, false, false, false] rfl rfl (by kernel_rfl) (fun _ _ _ h => h) (Or.inl ⟨by rfl, ?_⟩) ?_ ?_
      rotate_left
      · intro w'
        go_simp
        with_reducible rfl
      rotate_left
      · simp only [Act.put, List.setIfInBounds_toArray, List.set_cons_zero, List.set_cons_succ, i64_w, i32_w]
        rfl
      refine pure_ (i := 11) (N := some 130) (v := ?_) (a' := ?_) #[true, true, false, true, true, true, false, false, false, false, true, true, false, false, false, false] rfl rfl (by kernel_rfl) (fun _ _ _ h => h) (Or.inl ⟨by rfl, ?_⟩) ?_ ?_
      rotate_left
      · intro w'
        go_simp
        with_reducible rfl
      rotate_left
      · simp only [Act.put, List.setIfInBounds_toArray, List.set_cons_zero, List.set_cons_succ, i64_w, i32_w]
        rfl
      refine take_ (i := 2) (N := some 121) (v := ?_) (a' := ?_) #[true, true, true, true, true, true, false, false, false, false, true, true, false, false, false, false] rfl rfl (by kernel_rfl) (fun _ _ _ h => h) (Or.inl ⟨by rfl, ?_⟩) hHeld ?_ ?_
      rotate_left
      · rintro w' ⟨s0, s1, s2, s3⟩
        go_simp
        with_reducible rfl
      rotate_left
      · simp only [Act.put, List.setIfInBounds_toArray, List.set_cons_zero, List.set_cons_succ, i64_w, i32_w]
        rfl
      refine take_ (i := 6) (N := some 125) (v := ?_) (a' := ?_) #[true, true, true, true, true, true, true, false, false, false, true, true, false, false, false, false] rfl rfl (by kernel_rfl) (fun _ _ _ h => h) (Or.inl ⟨by rfl, ?_⟩) hHeld ?_ ?_
      rotate_left
      · rintro w' ⟨s0, s1, s2, s3⟩
        go_simp
        with_reducible rfl
      rotate_left
      · simp only [Act.put, List.setIfInBounds_toArray, List.set_cons_zero, List.set_cons_succ, i64_w, i32_w]
        rfl
      refine pure_ (i := 7) (N := some 126) (v := ?_) (a' := ?_) #[true, true, true, true, true, true, true, true, false, false, true, true, false, false, false, false] rfl rfl (by kernel_rfl) (fun _ _ _ h => h) (Or.inl ⟨by rfl, ?_⟩) ?_ ?_
      rotate_left
      · intro w'
        go_simp
        with_reducible rfl
      rotate_left
      · simp only [Act.put, List.setIfInBounds_toArray, List.set_cons_zero, List.set_cons_succ, i64_w, i32_w]
        rfl
      refine take_ (i := 8) (N := some 127) (v := ?_) (a' := ?_) #[true, true, true, true, true, true, true, true, true, false, true, true, false, false, false, false] rfl rfl (by kernel_rfl) (fun _ _ _ h => h) (Or.inl ⟨by rfl, ?_⟩) hHeld ?_ ?_
      rotate_left
      · rintro w' ⟨s0, s1, s2, s3⟩
        go_simp
        with_reducible rfl
      rotate_left
      · simp only [Act.put, List.setIfInBounds_toArray, List.set_cons_zero, List.set_cons_succ, i64_w, i32_w]
        rfl
      refine pure_ (i := 9) (N := some 128) (v := ?_) (a' := ?_) #[true, true, true, true, true, true, true, true, true, true, true, true, false, false, false, false] rfl rfl (by kernel_rfl) (fun _ _ _ h => h) (Or.inl ⟨by rfl, ?_⟩) ?_ ?_
      rotate_left
      · intro w'
        go_simp
        with_reducible rfl
      rotate_left
      · simp only [Act.put, List.setIfInBounds_toArray, List.set_cons_zero, List.set_cons_succ, i64_w, i32_w]
        rfl
      refine pure_ (i := 12) (N := some 131) (v := ?_) (a' := ?_) #[true, true, true, true, true, true, true, true, true, true, true, true, true, false, false, false] rfl rfl (by kernel_rfl) (fun _ _ _ h => h) (Or.inl ⟨by rfl, ?_⟩) ?_ ?_
      rotate_left
      · intro w'
        go_simp
        with_reducible rfl
      rotate_left
      · simp only [Act.put, List.setIfInBounds_toArray, List.set_cons_zero, List.set_cons_succ, i64_w, i32_w]
        rfl
      refine take_ (i := 13) (N := some 132) (v := ?_) (a' := ?_) #[true, true, true, true, true, true, true, true, true, true, true, true, true, true, false, false] rfl rfl (by kernel_rfl) (fun _ _ _ h => h) (Or.inl ⟨by rfl, ?_⟩) hHeld ?_ ?_
      rotate_left
      · rintro w' ⟨s0, s1, s2, s3⟩
        go_simp
        with_reducible rfl
      rotate_left
      · simp only [Act.put, List.setIfInBounds_toArray, List.set_cons_zero, List.set_cons_succ, i64_w, i32_w]
        rfl
      refine pure_ (i := 14) (N := some 133) (v := ?_) (a' := ?_) #[true, true, true, true, true, true, true, true, true, true, true, true, true, true, true, false] rfl rfl (by kernel_rfl) (fun _ _ _ h => h) (Or.inl ⟨by rfl, ?_⟩) ?_ ?_
      rotate_left
      · intro w'
        go_simp
        with_reducible rfl
      rotate_left
      · simp only [Act.put, List.setIfInBounds_toArray, List.set_cons_zero, List.set_cons_succ, i64_w, i32_w]
        rfl
      refine last_ (i := 15) (N := none) #[true, true, true, true, true, true, true, true, true, true, true, true, true, true, true, true] rfl rfl (by kernel_rfl) (by decide) (fun K hK => ?_)
      refine skip_ (w1 := ?_) (by rfl) rfl ?_ ?_
      rotate_left
      · go_simp
        rfl
      refine hK.out _ _ ?_
      clear hK K
      refine done_ (by kernel_rfl) ?_
      -- REGION 21 ENDS
      go_wp2_with (fail)
      go_roundg gk
      case measure => omega
      case rel => exact ⟨rest, r.set nd u, Rn.tick mm, tq, Ar2, cr - 1, rfl, hrl2, by rw [List.length_set]; exact hrR, by omega, HIR, HGO2, ⟨HLP.out.setr nd u⟩⟩
    -- CASE 9
    by_cases o9 : xop = 9
    · as_aux_lemma =>
      subst o9
      have hgo := HGO.out
      rw [Rn.go9 (Int.not_le.2 HST.out)] at hgo
      simp only [Rn.set, Rn.get, Rn.blk] at hgo
      by_cases hna : 0 ≤ xa ∧ xa < (r.length : Int)
      case neg => rw [if_neg hna] at hgo; cases hgo
      rw [if_pos hna] at hgo
      obtain ⟨na, rfl⟩ : ∃ n : Nat, xa = (n : Int) := ⟨xa.toNat, by omega⟩
      rw [Int.toNat_natCast] at hgo
      have lna : na < r.length := by omega
      obtain ⟨cna, fna⟩ := HLP.out.row.cell na lna
      have zna : (na : Int) < (R : Int) := by omega
      generalize r.getD na 0 = v at cna hgo
      by_cases hnb : 0 ≤ xbb ∧ xbb < (r.length : Int)
      case neg => rw [if_neg hnb] at hgo; cases hgo
      rw [if_pos hnb] at hgo
      obtain ⟨nb, rfl⟩ : ∃ n : Nat, xbb = (n : Int) := ⟨xbb.toNat, by omega⟩
      rw [Int.toNat_natCast] at hgo
      have lnb : nb < r.length := by omega
      obtain ⟨cnb, fnb⟩ := HLP.out.row.cell nb lnb
      have znb : (nb : Int) < (R : Int) := by omega
      generalize r.getD nb 0 = u at cnb hgo
      by_cases hv0 : 0 ≤ v
      case neg => rw [if_neg hv0] at hgo; cases hgo
      rw [if_pos hv0] at hgo
      obtain ⟨nv, rfl⟩ : ∃ n : Nat, v = (n : Int) := ⟨v.toNat, by omega⟩
      have etm : (nv : Int).tmod 256 = ((nv % 256 : Nat) : Int) := by rw [Int.tmod_eq_emod_of_nonneg (by omega)]; rfl
      have enm : ((nv : Int) % 256).toNat = nv % 256 := by omega
      rw [enm] at hgo
      have hm256 : nv % 256 < 256 := Nat.mod_lt _ (by decide)
      clear enm
      generalize nv % 256 = km at etm hgo hm256
      have zkm : (km : Int) < 256 := by omega
      have cmm := HLP.out.st.atm km hm256
      have cmf := HLP.out.st.fz (1 + km)
      have HGO2 := Aside0.mk hgo
      clear hgo HGO
      go_upto_region 23 with fail
      have HLP := Aside0.mk HLP.out.drew
      -- REGION 23 BEGINS
      refine start_ (n := 16) (S := fun w' => w'.cell? ⟨xb, 2, none⟩ = some (.int .i64 (na : Int)) ∧ w'.cell? ⟨fb + 1, na, none⟩ = some (.int .i64 (nv : Int)) ∧ w'.cell? ⟨xb, 3, none⟩ = some (.int .i64 (nb : Int)) ∧ w'.cell? ⟨fb + 1, nb, none⟩ = some (.int .i64 u)) (ds := [15]) #[false, false, false, false, false, false, false, false, false, false, false, false, false, false, false, false] (by kernel_rfl) rfl rfl ⟨y2, cna, y3, cnb⟩ (fun hHeld => ?_)
      refine pure_ (i := 0) (N := some 136) (v := ?_) (a' := ?_) #[true, false, false, false, false, false, false, false, false, false, false, false, false, false, false, false] rfl rfl (by kernel_rfl) (fun _ _ _ h => h) (Or.inl ⟨by rfl, ?_⟩) ?_ ?_
      rotate_left
      · intro w'
        go_simp
        with_reducible rfl
      rotate_left
      · simp only [Act.put, List.setIfInBounds_toArray, List.set_cons_zero, List.set_cons_succ, i64_w, i32_w]
        rfl
      refine pure_ (i := 1) (N := some 137) (v := ?_) (a' := ?_) #[true, true, false, false, false, false, false, false, false, false, false, false, false, false, false, false] rfl rfl (by kernel_rfl) (fun _ _ _ h => h) (Or.inl ⟨by rfl, ?_⟩) ?_ ?_
      rotate_left
      · intro w'
        go_simp
        with_reducible rfl
      rotate_left
      · simp only [Act.put, List.setIfInBounds_toArray, List.set_cons_zero, List.set_cons_succ, i64_w, i32_w]
        rfl
      refine pure_ (i := 2) (N := some 138) (v := ?_) (a' := ?_) #[true, true, true, false, false, false, false, false, false, false, false, false, false, false, false, false] rfl rfl (by kernel_rfl) (fun _ _ _ h => h) (Or.inl ⟨by rfl, ?_⟩) ?_ ?_
      rotate_left
      · intro w'
        go_simp
        with_reducible rfl
      rotate_left
      · simp only [Act.put, List.setIfInBounds_toArray, List.set_cons_zero, List.set_cons_succ, i64_w, i32_w]
        rfl
      refine pure_ (i := 7) (N := some 143) (v := ?_) (a' := ?_) #[true, true, true, false, false, false, false, true, false, false, false, false, false, false, false, false] rfl rfl (by kernel_rfl) (fun _ _ _ h => h) (Or.inl ⟨by rfl, ?_⟩) ?_ ?_
      rotate_left
      · intro w'
        go_simp
        with_reducible rfl
      rotate_left
      · simp only [Act.put, List.setIfInBounds_toArray, List.set_cons_zero, List.set_cons_succ, i64_w, i32_w]
        rfl
      refine pure_ (i := 8) (N := some 144) (v := ?_) (a' := ?_) #[true, true, true, false, false, false, false, true, true, false, false, false, false, false, false, false] rfl rfl (by kernel_rfl) (fun _ _ _ h => h) (Or.inl ⟨by rfl, ?_⟩) ?_ ?_
      rotate_left
      · intro w'
        go_simp
        with_reducible rfl
      rotate_left
      · simp only [Act.put, List.setIfInBounds_toArray, List.set_cons_zero, List.set_cons_succ, i64_w, i32_w]
        rfl
      refine pure_ (i := 12) (N := some 148) (v := ?_) (a' := ?_) #[true, true, true, false, false, false, false, true, true, false, false, false, true, false, false, false] rfl rfl (by kernel_rfl) (fun _ _ _ h => h) (Or.inl ⟨by rfl, ?_⟩) ?_ ?_
      rotate_left
      · intro w'
        go_simp
        with_reducible rfl
      rotate_left
      · simp only [Act.put, List.setIfInBounds_toArray, List.set_cons_zero, List.set_cons_succ, i64_w, i32_w]
        rfl
      refine pure_ (i := 13) (N := some 149) (v := ?_) (a' := ?_) #[true, true, true, false, false, false, false, true, true, false, false, false, true, true, false, false] rfl rfl (by kernel_rfl) (fun _ _ _ h => h) (Or.inl ⟨by rfl, ?_⟩) ?_ ?_
      rotate_left
      · intro w'
        go_simp
        with_reducible rfl
      rotate_left
      · simp only [Act.put, List.setIfInBounds_toArray, List.set_cons_zero, List.set_cons_succ, i64_w, i32_w]
        rfl
      refine take_ (i := 3) (N := some 139) (v := ?_) (a' := ?_) #[true, true, true, true, false, false, false, true, true, false, false, false, true, true, false, false] rfl rfl (by kernel_rfl) (fun _ _ _ h => h) (Or.inl ⟨by rfl, ?_⟩) hHeld ?_ ?_
      rotate_left
      · rintro w' ⟨s0, s1, s2, s3⟩
        go_simp
        with_reducible rfl
      rotate_left
      · simp only [Act.put, List.setIfInBounds_toArray, List.set_cons_zero, List.set_cons_succ, i64_w, i32_w]
        rfl
      refine pure_ (i := 4) (N := some 140) (v := ?_) (a' := ?_) #[true, true, true, true, true, false, false, true, true, false, false, false, true, true, false, false] rfl rfl (by kernel_rfl) (fun _ _ _ h => h) (Or.inl ⟨by rfl, ?_⟩) ?_ ?_
      rotate_left
      · intro w'
        go_simp
        with_reducible rfl
      rotate_left
      · simp only [Act.put, List.setIfInBounds_toArray, List.set_cons_zero, List.set_cons_succ, i64_w, i32_w]
        rfl
      refine take_ (i := 5) (N := some 141) (v := ?_) (a' := ?_) #[true, true, true, true, true, true, false, true, true, false, false, false, true, true, false, false] rfl rfl (by kernel_rfl) (fun _ _ _ h => h) (Or.inl ⟨by rfl, ?_⟩) hHeld ?_ ?_
      rotate_left
      · rintro w' ⟨s0, s1, s2, s3⟩
        go_simp
        with_reducible rfl
      rotate_left
      · simp only [Act.put, List.setIfInBounds_toArray, List.set_cons_zero, List.set_cons_succ, i64_w, i32_w]
        rfl
      refine pure_ (i := 6) (N := some 142) (v := ?_) (a' := ?_) #[true, true, true, true, true, true, true, true, true, false, false, false, true, true, false, false] rfl rfl (by kernel_rfl) (fun _ _ _ h => h) (Or.inl ⟨by rfl, ?_⟩) ?_ ?_
      rotate_left
      · intro w'
        go_simp
        with_reducible rfl
      rotate_left
      · simp only [Act.put, List.setIfInBounds_toArray, List.set_cons_zero, List.set_cons_succ, i64_w, i32_w]
        rfl
      refine take_ (i := 9) (N := some 145) (v := ?_) (a' := ?_) #[true, true, true, true, true, true, true, true, true, true, false, false, true, true, false, false] rfl rfl (by kernel_rfl) (fun _ _ _ h => h) (Or.inl ⟨by rfl, ?_⟩) hHeld ?_ ?_
      rotate_left
      · rintro w' ⟨s0, s1, s2, s3⟩
        go_simp
        with_reducible rfl
      rotate_left
      · simp only [Act.put, List.setIfInBounds_toArray, List.set_cons_zero, List.set_cons_succ, i64_w, i32_w]
        rfl
      refine pure_ (i := 10) (N := some 146) (v := ?_) (a' := ?_) #[true, true, true, true, true, true, true, true, true, true, true, false, true, true, false, false] rfl rfl (by kernel_rfl) (fun _ _ _ h => h) (Or.inl ⟨by rfl, ?_⟩) ?_ ?_
      rotate_left
      · intro w'
        go_simp
        with_reducible rfl
      rotate_left
      · simp only [Act.put, List.setIfInBounds_toArray, List.set_cons_zero, List.set_cons_succ, i64_w, i32_w]
        rfl
      refine take_ (i := 11) (N := some 147) (v := ?_) (a' := ?_) #[true, true, true, true, true, true, true, true, true, true, true, true, true, true, false, false] rfl rfl (by kernel_rfl) (fun _ _ _ h => h) (Or.inl ⟨by rfl, ?_⟩) hHeld ?_ ?_
      rotate_left
      · rintro w' ⟨s0, s1, s2, s3⟩
        go_simp
        with_reducible rfl
      rotate_left
      · simp only [Act.put, List.setIfInBounds_toArray, List.set_cons_zero, List.set_cons_succ, i64_w, i32_w]
        rfl
      refine pure_ (i := 14) (N := some 150) (v := ?_) (a' := ?_) #[true, true, true, true, true, true, true, true, true, true, true, true, true, true, true, false] rfl rfl (by kernel_rfl) (fun _ _ _ h => h) (Or.inl ⟨by rfl, ?_⟩) ?_ ?_
      rotate_left
      · intro w'
        go_simp
        with_reducible rfl
      rotate_left
      · simp only [Act.put, List.setIfInBounds_toArray, List.set_cons_zero, List.set_cons_succ, i64_w, i32_w]
        rfl
      refine last_ (i := 15) (N := none) #[true, true, true, true, true, true, true, true, true, true, true, true, true, true, true, true] rfl rfl (by kernel_rfl) (by decide) (fun K hK => ?_)
      refine skip_ (w1 := ?_) (by rfl) rfl ?_ ?_
      rotate_left
      · go_simp
        rfl
      refine hK.out _ _ ?_
      clear hK K
      refine done_ (by kernel_rfl) ?_
      -- REGION 23 ENDS
      go_wp2_with (fail)
      go_roundg gk
      case measure => omega
      case rel => exact ⟨rest, r, _, tq, Ar2, cr - 1, rfl, hrl2, hrR, by omega, HIR, HGO2, ⟨HLP.out.store km hm256 u⟩⟩
    -- CASE 10
    by_cases o10 : xop = 10
    · subst o10
      exact absurd HGO.out (by rw [Rn.go10 (Int.not_le.2 HST.out)]; intro h; cases h)
    -- CASE 11
    by_cases o11 : xop = 11
    · as_aux_lemma =>
      subst o11
      have hgo := HGO.out
      rw [Rn.go11 (Int.not_le.2 HST.out)] at hgo
      by_cases hal : 100000 < xargs.length
      case pos => rw [if_pos hal] at hgo; cases hgo
      rw [if_neg hal] at hgo
      cases hgs : Rn.gets r xargs with
      | none => rw [hgs] at hgo; cases hgo
      | some us =>
      rw [hgs] at hgo
      simp only at hgo
      obtain ⟨hul, hget⟩ := Rn.gets_at r xargs us hgs
      have HGET := Aside0.mk hget
      have HGO1 := Aside0.mk hgo
      have hmk := (Rn.made W7 xargs.length).resolve_right hal
      clear hget hgo HGO hgs
      go_upto_region 28 with fail
      clear hmk
      have hvb : xb < W7.heap.size := (Array.getElem?_eq_some_iff.1 HX.out).1
      have htv : some W7.heap.size ≠ tq.ownBlock := fun e => Nat.lt_irrefl _ (HLP.out.st.tlt _ e)
      have HV : Aside0 (Rn.Row (W7.alloc (.cells (Array.replicate xargs.length (.int .i64 0)) 3)) W7.heap.size (us.take 0 ++ List.replicate (xargs.length - 0) 0)) := ⟨by
        unfold Rn.Row
        rw [Hw.blk_nw W7 (.cells (Array.replicate xargs.length (.int .i64 0)) 3)]
        simp⟩
      have HX := Aside0.mk (Hw.blk_al HX.out (.cells (Array.replicate xargs.length (.int .i64 0)) 3))
      have HLP := Aside0.mk (HLP.out.alloc (.cells (Array.replicate xargs.length (.int .i64 0)) 3))
      clear y0 y1 y2 y3 y4 y5 b3
      generalize W7.heap.size = vb at hvb htv HV ⊢
      generalize W7.alloc (.cells (Array.replicate xargs.length (.int .i64 0)) 3) = W8 at HV HX HLP ⊢
      have y5 : W8.cell? ⟨xb, 5, none⟩ = some (.slice Ag xargs.length cg) := cell_of_row W8 xb 5 _ _ _ HX.out
      go_wp2_with (fail)
      obtain ⟨gko, rfl⟩ : ∃ q, q = gk := ⟨gk, rfl⟩
      go_loopg [176] xargs.length (fun gg v176 wq => ∃ k : Nat, v176 = .int .i64 (k : Int) ∧ k ≤ xargs.length ∧ xargs.length - k ≤ gg ∧ Aside0 (Rn.Lp W wq W0.heap.size gm (some ad) mod.length c fuel tv tq fb #[.string fname, .int .i64 (vs.length : Int), .int .i64 (R : Int), .slice (some adb) fbl.length cb] (Rn.tick mm) r) ∧ Aside0 (Rn.Row wq vb (us.take k ++ List.replicate (xargs.length - k) 0)) ∧ Aside0 (wq.heap[xb]? = some (.cells #[.int .i64 11, .int .i64 xd, .int .i64 xa, .int .i64 xbb, .string xname, .slice Ag xargs.length cg] 30)))
      case atStart => exact ⟨0, rfl, Nat.zero_le _, by omega, HLP, HV, HX⟩
      case round =>
        clear HLP HV HX y5
        obtain ⟨k, rfl, hk, hgg2, HLP, HV, HX⟩ := hrel
        by_cases hkl : k < xargs.length
        · obtain ⟨gk2, rfl⟩ : ∃ q, gk = q + 1 := by
            cases gk with
            | zero => omega
            | succ q => exact ⟨q, rfl⟩
          obtain ⟨⟨q1, q2⟩, q3⟩ := HGET.out k hkl
          obtain ⟨ada, rfl, a1⟩ := Kd.at_int HGC.out (k : Int) (by omega) (by omega)
          have a1' : wr.cell? (ada.add k) = some (.int .i64 (xargs.getD k 0)) := by
            rw [(B0.out.trans HLP.out.fr.b).cell (World.block_lt_of_cell? W0 _ (by rw [Int.toNat_natCast] at a1; exact a1))]
            rw [Int.toNat_natCast] at a1
            rw [a1]
            unfold rd
            rw [Int.toNat_natCast]
          clear a1
          have HFILL := Aside0.mk (Rn.fill us xargs.length k hul hkl)
          rw [q3] at HFILL
          generalize xargs.getD k 0 = n0 at q1 q2 q3 a1' HFILL
          obtain ⟨nk, rfl⟩ : ∃ n : Nat, n0 = (n : Int) := ⟨n0.toNat, by omega⟩
          rw [Int.toNat_natCast] at HFILL
          obtain ⟨c1, f1⟩ := HLP.out.row.cell nk (by omega)
          obtain ⟨c2, f2⟩ := HV.out.cell k (by rw [List.length_append, List.length_take, List.length_replicate]; omega)
          have znk : (nk : Int) < (R : Int) := by omega
          clear q1 q2 q3
          generalize r.getD nk 0 = u at c1 HFILL
          have hxv : ¬ xb = vb := by omega
          go_wp2_with (fail)
          go_roundg gk2
          case measure => omega
          case rel => exact ⟨k + 1, by rw [Int.natCast_add]; rfl, by omega, by omega, ⟨HLP.out.nset vb k (by omega) htv _⟩, ⟨by rw [← HFILL.out]; exact HV.out.set k u⟩, ⟨(Below.heap_setCell _ _ _ xb hxv).trans HX.out⟩⟩
        · obtain rfl : k = xargs.length := by omega
          have HV : Aside0 (Rn.Row wr vb us) := ⟨by
            have h := HV.out
            rwa [Nat.sub_self, List.replicate_zero, List.append_nil, List.take_of_length_le (by omega)] at h⟩
          have y4 : wr.cell? ⟨xb, 4, none⟩ = some (.string xname) := cell_of_row wr xb 4 _ _ _ HX.out
          have hgo := HGO1.out
          cases hcall : Rn.call mod fuel gko xname us (deep + 1) (Rn.tick mm) with
          | none => rw [hcall] at hgo; cases hgo
          | some res =>
          obtain ⟨q1, m1⟩ := res
          have HC := Aside0.mk (HIH.out gko (by omega) xname us (deep + 1) (Rn.tick mm) q1 m1 hcall W0 wr gm (some ad) c tq (some ⟨vb, 0, none⟩) xargs.length HMOD.out hmc (B0.out.trans HLP.out.fr.b) HLP.out.st (HV.out.C (by omega)) (by omega) (by omega))
          rw [hul] at HC
          rw [hcall] at hgo
          clear hcall
          have hxlt : xb < wr.heap.size := (Array.getElem?_eq_some_iff.1 HX.out).1
          have hn12 := And.intro HLP.out.n1 HLP.out.n2
          have hxg : xb ≠ gm := by omega
          cases q1 with
          | val z =>
            simp only [Rn.set] at hgo
            dsimp only [run_machine_call.ending] at HC
            by_cases hnd : 0 ≤ xd ∧ xd < (r.length : Int)
            case neg => rw [if_neg hnd] at hgo; cases hgo
            rw [if_pos hnd] at hgo
            obtain ⟨nd, rfl⟩ : ∃ n : Nat, xd = (n : Int) := ⟨xd.toNat, by omega⟩
            rw [Int.toNat_natCast] at hgo
            have lnd : nd < r.length := by omega
            have znd : (nd : Int) < (R : Int) := by omega
            have HGO2 := Aside0.mk hgo
            clear hgo HGO1
            go_wp2_with (go_at_call 15; (with_reducible refine HC.out.mono ?_); rintro e w9 ⟨rfl, tq9, hs9, hf9⟩; have HX := Aside0.mk ((hf9.f xb hxlt hxg htx).trans HX.out); have HLP := Aside0.mk (HLP.out.call hs9 hf9); clear hs9 hf9; obtain ⟨cnd, fnd⟩ := HLP.out.row.cell nd lnd; have y1 : w9.cell? ⟨xb, 1, none⟩ = some (.int .i64 (nd : Int)) := cell_of_row w9 xb 1 _ _ _ HX.out)
            go_roundg gko
            case measure => omega
            case rel => exact ⟨rest, r.set nd z, m1, tq9, Ar2, cr - 1, rfl, hrl2, by rw [List.length_set]; exact hrR, by omega, HIR, HGO2, ⟨HLP.out.setr nd z⟩⟩
          | trap =>
            dsimp only [run_machine_call.ending] at HC
            obtain ⟨rfl, rfl⟩ := Prod.mk.inj (Option.some.inj hgo)
            clear hgo HGO1
            go_wp2_with (go_at_call 15; (with_reducible refine HC.out.mono ?_); rintro e w9 ⟨rfl, tq9, hs9, hf9⟩; have HLP := Aside0.mk (HLP.out.call hs9 hf9); clear hs9 hf9)
            exact ⟨rfl, rfl, _, HLP.out.st, HLP.out.fr⟩
          | out =>
            dsimp only [run_machine_call.ending] at HC
            obtain ⟨rfl, rfl⟩ := Prod.mk.inj (Option.some.inj hgo)
            clear hgo HGO1
            go_wp2_with (go_at_call 15; (with_reducible refine HC.out.mono ?_); rintro e w9 ⟨rfl, tq9, hs9, hf9⟩; have HLP := Aside0.mk (HLP.out.call hs9 hf9); clear hs9 hf9)
            exact ⟨rfl, rfl, _, HLP.out.st, HLP.out.fr⟩
    -- CASE 12
    by_cases o12 : xop = 12
    · as_aux_lemma =>
      subst o12
      have hgo := HGO.out
      rw [Rn.go12 (Int.not_le.2 HST.out)] at hgo
      simp only [Rn.set, Rn.get, Rn.blk] at hgo
      by_cases hna : 0 ≤ xa ∧ xa < (fbl.length : Int)
      case neg => rw [if_neg hna] at hgo; cases hgo
      rw [if_pos hna] at hgo
      obtain ⟨na, rfl⟩ : ∃ n : Nat, xa = (n : Int) := ⟨xa.toNat, by omega⟩
      rw [Int.toNat_natCast] at hgo
      have lna : na < fbl.length := by omega
      obtain ⟨adj, Aj, kj, ej, dj, hlj, hCj⟩ := Rn.at_B HBC.out na lna
      cases ej
      have dj2 : W7.cell? (adb.add na) = _ := ((B0.out.trans HLP.out.fr.b).cell (World.block_lt_of_cell? W0 _ dj)).trans dj
      have HCj := Aside0.mk hCj
      have zna : (na : Int) < (fbl.length : Int) := by omega
      clear dj hCj
      generalize fbl.getD na [] = bj at dj2 hlj HCj hgo
      have HGO2 := Aside0.mk hgo
      clear hgo HGO
      go_wp2_with (fail)
      go_roundg gk
      case measure => omega
      case rel => exact ⟨bj, r, Rn.tick mm, tq, Aj, kj, rfl, hlj, hrR, by omega, HCj, HGO2, HLP⟩
    -- CASE 13
    by_cases o13 : xop = 13
    · as_aux_lemma =>
      subst o13
      have hgo := HGO.out
      rw [Rn.go13 (Int.not_le.2 HST.out)] at hgo
      simp only [Rn.set, Rn.get, Rn.blk] at hgo
      by_cases hnd : 0 ≤ xd ∧ xd < (fbl.length : Int)
      case neg => rw [if_neg hnd] at hgo; cases hgo
      rw [if_pos hnd] at hgo
      obtain ⟨nd, rfl⟩ : ∃ n : Nat, xd = (n : Int) := ⟨xd.toNat, by omega⟩
      rw [Int.toNat_natCast] at hgo
      have lnd : nd < fbl.length := by omega
      obtain ⟨adj, Aj, kj, ej, dj, hlj, hCj⟩ := Rn.at_B HBC.out nd lnd
      cases ej
      have dj2 : W7.cell? (adb.add nd) = _ := ((B0.out.trans HLP.out.fr.b).cell (World.block_lt_of_cell? W0 _ dj)).trans dj
      have HCj := Aside0.mk hCj
      have znd : (nd : Int) < (fbl.length : Int) := by omega
      clear dj hCj
      generalize fbl.getD nd [] = bj at dj2 hlj HCj hgo
      by_cases hna : 0 ≤ xa ∧ xa < (r.length : Int)
      case neg => rw [if_neg hna] at hgo; cases hgo
      rw [if_pos hna] at hgo
      obtain ⟨na, rfl⟩ : ∃ n : Nat, xa = (n : Int) := ⟨xa.toNat, by omega⟩
      rw [Int.toNat_natCast] at hgo
      have lna : na < r.length := by omega
      obtain ⟨cna, fna⟩ := HLP.out.row.cell na lna
      have zna : (na : Int) < (R : Int) := by omega
      generalize r.getD na 0 = v at cna hgo
      by_cases hv : v = 0
      · rw [if_pos hv] at hgo
        subst hv
        have HGO2 := Aside0.mk hgo
        clear hgo HGO
        go_wp2_with (fail)
        go_roundg gk
        case measure => omega
        case rel => exact ⟨bj, r, Rn.tick mm, tq, Aj, kj, rfl, hlj, hrR, by omega, HCj, HGO2, HLP⟩
      · rw [if_neg hv] at hgo
        have hv2 : (v == 0) = false := beq_eq_false_iff_ne.2 hv
        have hv3 := decide_eq_false hv
        by_cases hnb : 0 ≤ xbb ∧ xbb < (fbl.length : Int)
        case neg => rw [if_neg hnb] at hgo; cases hgo
        rw [if_pos hnb] at hgo
        obtain ⟨nb, rfl⟩ : ∃ n : Nat, xbb = (n : Int) := ⟨xbb.toNat, by omega⟩
        rw [Int.toNat_natCast] at hgo
        have lnb : nb < fbl.length := by omega
        obtain ⟨adi, Aii, ki, ei, di, hli, hCi⟩ := Rn.at_B HBC.out nb lnb
        cases ei
        have di2 : W7.cell? (adb.add nb) = _ := ((B0.out.trans HLP.out.fr.b).cell (World.block_lt_of_cell? W0 _ di)).trans di
        have HCi := Aside0.mk hCi
        have znb : (nb : Int) < (fbl.length : Int) := by omega
        clear di hCi
        generalize fbl.getD nb [] = bi at di2 hli HCi hgo
        have HGO2 := Aside0.mk hgo
        clear hgo HGO
        go_wp2_with (fail)
        go_roundg gk
        case measure => omega
        case rel => exact ⟨bi, r, Rn.tick mm, tq, Aii, ki, rfl, hli, hrR, by omega, HCi, HGO2, HLP⟩
    -- CASE 14
    by_cases o14 : xop = 14
    · as_aux_lemma =>
      subst o14
      have hgo := HGO.out
      rw [Rn.go14 (Int.not_le.2 HST.out)] at hgo
      simp only [Rn.set, Rn.get, Rn.blk] at hgo
      by_cases hna : 0 ≤ xa ∧ xa < (r.length : Int)
      case neg => rw [if_neg hna] at hgo; cases hgo
      rw [if_pos hna] at hgo
      obtain ⟨na, rfl⟩ : ∃ n : Nat, xa = (n : Int) := ⟨xa.toNat, by omega⟩
      rw [Int.toNat_natCast] at hgo
      have lna : na < r.length := by omega
      obtain ⟨cna, fna⟩ := HLP.out.row.cell na lna
      have zna : (na : Int) < (R : Int) := by omega
      generalize r.getD na 0 = v at cna hgo
      obtain ⟨rfl, rfl⟩ := Prod.mk.inj (Option.some.inj hgo)
      clear hgo HGO
      go_wp2_with (fail)
      go_ret
      exact ⟨rfl, _, HLP.out.st, HLP.out.fr⟩
    -- CASE 0
    as_aux_lemma =>
    have hgo := HGO.out
    rw [Rn.goD (Int.not_le.2 HST.out) o1 o2 o8 o9 o10 o11 o12 o13 o14] at hgo
    simp only [Rn.get] at hgo
    by_cases hna : 0 ≤ xa ∧ xa < (r.length : Int)
    case neg => rw [if_neg hna] at hgo; cases hgo
    rw [if_pos hna] at hgo
    obtain ⟨na, rfl⟩ : ∃ n : Nat, xa = (n : Int) := ⟨xa.toNat, by omega⟩
    rw [Int.toNat_natCast] at hgo
    have lna : na < r.length := by omega
    obtain ⟨cna, fna⟩ := HLP.out.row.cell na lna
    have zna : (na : Int) < (R : Int) := by omega
    generalize r.getD na 0 = v at cna hgo
    by_cases hnb : 0 ≤ xbb ∧ xbb < (r.length : Int)
    case neg => rw [if_neg hnb] at hgo; cases hgo
    rw [if_pos hnb] at hgo
    obtain ⟨nb, rfl⟩ : ∃ n : Nat, xbb = (n : Int) := ⟨xbb.toNat, by omega⟩
    rw [Int.toNat_natCast] at hgo
    have lnb : nb < r.length := by omega
    obtain ⟨cnb, fnb⟩ := HLP.out.row.cell nb lnb
    have znb : (nb : Int) < (R : Int) := by omega
    generalize r.getD nb 0 = u at cnb hgo
    have HOP := Aside0.mk (fun W => run_machine_call.op_calls xop v u W)
    have p1 := decide_eq_false o1
    have p2 := decide_eq_false o2
    have p8 := decide_eq_false o8
    have p9 := decide_eq_false o9
    have p10 := decide_eq_false o10
    have p11 := decide_eq_false o11
    have p12 := decide_eq_false o12
    have p13 := decide_eq_false o13
    have p14 := decide_eq_false o14
    cases hop : Rn.opw xop v u with
    | none =>
      rw [hop] at hgo HOP
      obtain ⟨rfl, rfl⟩ := Prod.mk.inj (Option.some.inj hgo)
      clear hgo HGO
      go_upto_region 12 with fail
      -- REGION 12 A BEGINS
      refine start_ (n := 18) (S := fun w' => w'.cell? ⟨xb, 0, none⟩ = some (.int .i64 xop) ∧ w'.cell? ⟨xb, 2, none⟩ = some (.int .i64 (na : Int)) ∧ w'.cell? ⟨fb + 1, na, none⟩ = some (.int .i64 v) ∧ w'.cell? ⟨xb, 3, none⟩ = some (.int .i64 (nb : Int)) ∧ w'.cell? ⟨fb + 1, nb, none⟩ = some (.int .i64 u)) (ds := []) #[false, false, false, false, false, false, false, false, false, false, false, false, false, false, false, false, false, false] (by kernel_rfl) rfl rfl ⟨y0, y2, cna, y3, cnb⟩ (fun hHeld => ?_)
      refine pure_ (i := 0) (N := some 74) (v := ?_) (a' := ?_) #[true, false, false, false, false, false, false, false, false, false, false, false, false, false, false, false, false, false] rfl rfl (by kernel_rfl) (fun _ _ _ h => h) (Or.inl ⟨by rfl, ?_⟩) ?_ ?_
      rotate_left
      · intro w'
        go_simp
        with_reducible rfl
      rotate_left
      · simp only [Act.put, List.setIfInBounds_toArray, List.set_cons_zero, List.set_cons_succ, i64_w, i32_w]
        rfl
      refine pure_ (i := 2) (N := some 76) (v := ?_) (a' := ?_) #[true, false, true, false, false, false, false, false, false, false, false, false, false, false, false, false, false, false] rfl rfl (by kernel_rfl) (fun _ _ _ h => h) (Or.inl ⟨by rfl, ?_⟩) ?_ ?_
      rotate_left
      · intro w'
        go_simp
        with_reducible rfl
      rotate_left
      · simp only [Act.put, List.setIfInBounds_toArray, List.set_cons_zero, List.set_cons_succ, i64_w, i32_w]
        rfl
      refine pure_ (i := 3) (N := some 77) (v := ?_) (a' := ?_) #[true, false, true, true, false, false, false, false, false, false, false, false, false, false, false, false, false, false] rfl rfl (by kernel_rfl) (fun _ _ _ h => h) (Or.inl ⟨by rfl, ?_⟩) ?_ ?_
      rotate_left
      · intro w'
        go_simp
        with_reducible rfl
      rotate_left
      · simp only [Act.put, List.setIfInBounds_toArray, List.set_cons_zero, List.set_cons_succ, i64_w, i32_w]
        rfl
      refine pure_ (i := 7) (N := some 81) (v := ?_) (a' := ?_) #[true, false, true, true, false, false, false, true, false, false, false, false, false, false, false, false, false, false] rfl rfl (by kernel_rfl) (fun _ _ _ h => h) (Or.inl ⟨by rfl, ?_⟩) ?_ ?_
      rotate_left
      · intro w'
        go_simp
        with_reducible rfl
      rotate_left
      · simp only [Act.put, List.setIfInBounds_toArray, List.set_cons_zero, List.set_cons_succ, i64_w, i32_w]
        rfl
      refine pure_ (i := 8) (N := some 82) (v := ?_) (a' := ?_) #[true, false, true, true, false, false, false, true, true, false, false, false, false, false, false, false, false, false] rfl rfl (by kernel_rfl) (fun _ _ _ h => h) (Or.inl ⟨by rfl, ?_⟩) ?_ ?_
      rotate_left
      · intro w'
        go_simp
        with_reducible rfl
      rotate_left
      · simp only [Act.put, List.setIfInBounds_toArray, List.set_cons_zero, List.set_cons_succ, i64_w, i32_w]
        rfl
      refine take_ (i := 1) (N := some 75) (v := ?_) (a' := ?_) #[true, true, true, true, false, false, false, true, true, false, false, false, false, false, false, false, false, false] rfl rfl (by kernel_rfl) (fun _ _ _ h => h) (Or.inl ⟨by rfl, ?_⟩) hHeld ?_ ?_
      rotate_left
      · rintro w' ⟨s0, s1, s2, s3, s4⟩
        go_simp
        with_reducible rfl
      rotate_left
      · simp only [Act.put, List.setIfInBounds_toArray, List.set_cons_zero, List.set_cons_succ, i64_w, i32_w]
        rfl
      refine take_ (i := 4) (N := some 78) (v := ?_) (a' := ?_) #[true, true, true, true, true, false, false, true, true, false, false, false, false, false, false, false, false, false] rfl rfl (by kernel_rfl) (fun _ _ _ h => h) (Or.inl ⟨by rfl, ?_⟩) hHeld ?_ ?_
      rotate_left
      · rintro w' ⟨s0, s1, s2, s3, s4⟩
        go_simp
        with_reducible rfl
      rotate_left
      · simp only [Act.put, List.setIfInBounds_toArray, List.set_cons_zero, List.set_cons_succ, i64_w, i32_w]
        rfl
      refine pure_ (i := 5) (N := some 79) (v := ?_) (a' := ?_) #[true, true, true, true, true, true, false, true, true, false, false, false, false, false, false, false, false, false] rfl rfl (by kernel_rfl) (fun _ _ _ h => h) (Or.inl ⟨by rfl, ?_⟩) ?_ ?_
      rotate_left
      · intro w'
        go_simp
        with_reducible rfl
      rotate_left
      · simp only [Act.put, List.setIfInBounds_toArray, List.set_cons_zero, List.set_cons_succ, i64_w, i32_w]
        rfl
      refine take_ (i := 6) (N := some 80) (v := ?_) (a' := ?_) #[true, true, true, true, true, true, true, true, true, false, false, false, false, false, false, false, false, false] rfl rfl (by kernel_rfl) (fun _ _ _ h => h) (Or.inl ⟨by rfl, ?_⟩) hHeld ?_ ?_
      rotate_left
      · rintro w' ⟨s0, s1, s2, s3, s4⟩
        go_simp
        with_reducible rfl
      rotate_left
      · simp only [Act.put, List.setIfInBounds_toArray, List.set_cons_zero, List.set_cons_succ, i64_w, i32_w]
        rfl
      refine take_ (i := 9) (N := some 83) (v := ?_) (a' := ?_) #[true, true, true, true, true, true, true, true, true, true, false, false, false, false, false, false, false, false] rfl rfl (by kernel_rfl) (fun _ _ _ h => h) (Or.inl ⟨by rfl, ?_⟩) hHeld ?_ ?_
      rotate_left
      · rintro w' ⟨s0, s1, s2, s3, s4⟩
        go_simp
        with_reducible rfl
      rotate_left
      · simp only [Act.put, List.setIfInBounds_toArray, List.set_cons_zero, List.set_cons_succ, i64_w, i32_w]
        rfl
      refine pure_ (i := 10) (N := some 84) (v := ?_) (a' := ?_) #[true, true, true, true, true, true, true, true, true, true, true, false, false, false, false, false, false, false] rfl rfl (by kernel_rfl) (fun _ _ _ h => h) (Or.inl ⟨by rfl, ?_⟩) ?_ ?_
      rotate_left
      · intro w'
        go_simp
        with_reducible rfl
      rotate_left
      · simp only [Act.put, List.setIfInBounds_toArray, List.set_cons_zero, List.set_cons_succ, i64_w, i32_w]
        rfl
      refine take_ (i := 11) (N := some 85) (v := ?_) (a' := ?_) #[true, true, true, true, true, true, true, true, true, true, true, true, false, false, false, false, false, false] rfl rfl (by kernel_rfl) (fun _ _ _ h => h) (Or.inl ⟨by rfl, ?_⟩) hHeld ?_ ?_
      rotate_left
      · rintro w' ⟨s0, s1, s2, s3, s4⟩
        go_simp
        with_reducible rfl
      rotate_left
      · simp only [Act.put, List.setIfInBounds_toArray, List.set_cons_zero, List.set_cons_succ, i64_w, i32_w]
        rfl
      refine one_ (i := 12) (N := some 86) #[true, true, true, true, true, true, true, true, true, true, true, true, true, false, false, false, false, false] rfl rfl (by kernel_rfl) (by decide) (fun K hK => ?_)
      refine goes_ Try.func7 (by kernel_rfl) rfl #[.int .i64 xop, .int .i64 v, .int .i64 u] (by rfl) rfl rfl (by simp only [List.map_toArray, List.map_cons, List.map_nil]; rfl) ?_
      with_reducible refine (HOP.out _).mono ?_
      rintro e w3 ⟨rfl, nq, rfl⟩
      refine ⟨_, rfl, ?_⟩
      refine hK.out _ _ ⟨y0, y2, cna, y3, cnb⟩ (fun hHeld => ?_)
      clear hK K
      refine norm_ (a' := ?_) ?_ ?_
      rotate_left
      · show Act.put _ (some 86) _ = _
        simp only [Act.put, List.setIfInBounds_toArray, List.set_cons_zero, List.set_cons_succ, i64_w, i32_w]
        rfl
      refine pure_ (i := 13) (N := some 73) (v := ?_) (a' := ?_) #[true, true, true, true, true, true, true, true, true, true, true, true, true, true, false, false, false, false] rfl rfl (by kernel_rfl) (fun _ _ _ h => h) (Or.inl ⟨by rfl, ?_⟩) ?_ ?_
      rotate_left
      · intro w'
        go_simp
        with_reducible rfl
      rotate_left
      · simp only [Act.put, List.setIfInBounds_toArray, List.set_cons_zero, List.set_cons_succ, i64_w, i32_w]
        rfl
      refine pure_ (i := 14) (N := some 87) (v := ?_) (a' := ?_) #[true, true, true, true, true, true, true, true, true, true, true, true, true, true, true, false, false, false] rfl rfl (by kernel_rfl) (fun _ _ _ h => h) (Or.inl ⟨by rfl, ?_⟩) ?_ ?_
      rotate_left
      · intro w'
        go_simp
        with_reducible rfl
      rotate_left
      · simp only [Act.put, List.setIfInBounds_toArray, List.set_cons_zero, List.set_cons_succ, i64_w, i32_w]
        rfl
      refine pure_ (i := 15) (N := some 88) (v := ?_) (a' := ?_) #[true, true, true, true, true, true, true, true, true, true, true, true, true, true, true, true, false, false] rfl rfl (by kernel_rfl) (fun _ _ _ h => h) (Or.inl ⟨by rfl, ?_⟩) ?_ ?_
      rotate_left
      · intro w'
        go_simp
        with_reducible rfl
      rotate_left
      · simp only [Act.put, List.setIfInBounds_toArray, List.set_cons_zero, List.set_cons_succ, i64_w, i32_w]
        rfl
      refine pure_ (i := 16) (N := some 18) (v := ?_) (a' := ?_) #[true, true, true, true, true, true, true, true, true, true, true, true, true, true, true, true, true, false] rfl rfl (by kernel_rfl) (fun _ _ _ h => h) (Or.inl ⟨by rfl, ?_⟩) ?_ ?_
      rotate_left
      · intro w'
        go_simp
        with_reducible rfl
      rotate_left
      · simp only [Act.put, List.setIfInBounds_toArray, List.set_cons_zero, List.set_cons_succ, i64_w, i32_w]
        rfl
      refine pure_ (i := 17) (N := some 19) (v := ?_) (a' := ?_) #[true, true, true, true, true, true, true, true, true, true, true, true, true, true, true, true, true, true] rfl rfl (by kernel_rfl) (fun _ _ _ h => h) (Or.inl ⟨by rfl, ?_⟩) ?_ ?_
      rotate_left
      · intro w'
        go_simp
        with_reducible rfl
      rotate_left
      · simp only [Act.put, List.setIfInBounds_toArray, List.set_cons_zero, List.set_cons_succ, i64_w, i32_w]
        rfl
      refine done_ (by kernel_rfl) ?_
      -- REGION 12 A ENDS
      go_wp2_with (fail)
      exact ⟨rfl, rfl, _, HLP.out.st.drewN (1 + nq), HLP.out.fr.drewN (1 + nq)⟩
    | some z =>
      rw [hop] at hgo HOP
      simp only [Rn.set] at hgo
      by_cases hnd : 0 ≤ xd ∧ xd < (r.length : Int)
      case neg => rw [if_neg hnd] at hgo; cases hgo
      rw [if_pos hnd] at hgo
      obtain ⟨nd, rfl⟩ : ∃ n : Nat, xd = (n : Int) := ⟨xd.toNat, by omega⟩
      rw [Int.toNat_natCast] at hgo
      have lnd : nd < r.length := by omega
      obtain ⟨cnd, fnd⟩ := HLP.out.row.cell nd lnd
      have znd : (nd : Int) < (R : Int) := by omega
      have HGO2 := Aside0.mk hgo
      clear hgo HGO
      go_upto_region 12 with fail
      -- REGION 12 B BEGINS
      refine start_ (n := 18) (S := fun w' => w'.cell? ⟨xb, 0, none⟩ = some (.int .i64 xop) ∧ w'.cell? ⟨xb, 2, none⟩ = some (.int .i64 (na : Int)) ∧ w'.cell? ⟨fb + 1, na, none⟩ = some (.int .i64 v) ∧ w'.cell? ⟨xb, 3, none⟩ = some (.int .i64 (nb : Int)) ∧ w'.cell? ⟨fb + 1, nb, none⟩ = some (.int .i64 u)) (ds := []) #[false, false, false, false, false, false, false, false, false, false, false, false, false, false, false, false, false, false] (by kernel_rfl) rfl rfl ⟨y0, y2, cna, y3, cnb⟩ (fun hHeld => ?_)
      refine pure_ (i := 0) (N := some 74) (v := ?_) (a' := ?_) #[true, false, false, false, false, false, false, false, false, false, false, false, false, false, false, false, false, false] rfl rfl (by kernel_rfl) (fun _ _ _ h => h) (Or.inl ⟨by rfl, ?_⟩) ?_ ?_
      rotate_left
      · intro w'
        go_simp
        with_reducible rfl
      rotate_left
      · simp only [Act.put, List.setIfInBounds_toArray, List.set_cons_zero, List.set_cons_succ, i64_w, i32_w]
        rfl
      refine pure_ (i := 2) (N := some 76) (v := ?_) (a' := ?_) #[true, false, true, false, false, false, false, false, false, false, false, false, false, false, false, false, false, false] rfl rfl (by kernel_rfl) (fun _ _ _ h => h) (Or.inl ⟨by rfl, ?_⟩) ?_ ?_
      rotate_left
      · intro w'
        go_simp
        with_reducible rfl
      rotate_left
      · simp only [Act.put, List.setIfInBounds_toArray, List.set_cons_zero, List.set_cons_succ, i64_w, i32_w]
        rfl
      refine pure_ (i := 3) (N := some 77) (v := ?_) (a' := ?_) #[true, false, true, true, false, false, false, false, false, false, false, false, false, false, false, false, false, false] rfl rfl (by kernel_rfl) (fun _ _ _ h => h) (Or.inl ⟨by rfl, ?_⟩) ?_ ?_
      rotate_left
      · intro w'
        go_simp
        with_reducible rfl
      rotate_left
      · simp only [Act.put, List.setIfInBounds_toArray, List.set_cons_zero, List.set_cons_succ, i64_w, i32_w]
        rfl
      refine pure_ (i := 7) (N := some 81) (v := ?_) (a' := ?_) #[true, false, true, true, false, false, false, true, false, false, false, false, false, false, false, false, false, false] rfl rfl (by kernel_rfl) (fun _ _ _ h => h) (Or.inl ⟨by rfl, ?_⟩) ?_ ?_
      rotate_left
      · intro w'
        go_simp
        with_reducible rfl
      rotate_left
      · simp only [Act.put, List.setIfInBounds_toArray, List.set_cons_zero, List.set_cons_succ, i64_w, i32_w]
        rfl
      refine pure_ (i := 8) (N := some 82) (v := ?_) (a' := ?_) #[true, false, true, true, false, false, false, true, true, false, false, false, false, false, false, false, false, false] rfl rfl (by kernel_rfl) (fun _ _ _ h => h) (Or.inl ⟨by rfl, ?_⟩) ?_ ?_
      rotate_left
      · intro w'
        go_simp
        with_reducible rfl
      rotate_left
      · simp only [Act.put, List.setIfInBounds_toArray, List.set_cons_zero, List.set_cons_succ, i64_w, i32_w]
        rfl
      refine take_ (i := 1) (N := some 75) (v := ?_) (a' := ?_) #[true, true, true, true, false, false, false, true, true, false, false, false, false, false, false, false, false, false] rfl rfl (by kernel_rfl) (fun _ _ _ h => h) (Or.inl ⟨by rfl, ?_⟩) hHeld ?_ ?_
      rotate_left
      · rintro w' ⟨s0, s1, s2, s3, s4⟩
        go_simp
        with_reducible rfl
      rotate_left
      · simp only [Act.put, List.setIfInBounds_toArray, List.set_cons_zero, List.set_cons_succ, i64_w, i32_w]
        rfl
      refine take_ (i := 4) (N := some 78) (v := ?_) (a' := ?_) #[true, true, true, true, true, false, false, true, true, false, false, false, false, false, false, false, false, false] rfl rfl (by kernel_rfl) (fun _ _ _ h => h) (Or.inl ⟨by rfl, ?_⟩) hHeld ?_ ?_
      rotate_left
      · rintro w' ⟨s0, s1, s2, s3, s4⟩
        go_simp
        with_reducible rfl
      rotate_left
      · simp only [Act.put, List.setIfInBounds_toArray, List.set_cons_zero, List.set_cons_succ, i64_w, i32_w]
        rfl
      refine pure_ (i := 5) (N := some 79) (v := ?_) (a' := ?_) #[true, true, true, true, true, true, false, true, true, false, false, false, false, false, false, false, false, false] rfl rfl (by kernel_rfl) (fun _ _ _ h => h) (Or.inl ⟨by rfl, ?_⟩) ?_ ?_
      rotate_left
      · intro w'
        go_simp
        with_reducible rfl
      rotate_left
      · simp only [Act.put, List.setIfInBounds_toArray, List.set_cons_zero, List.set_cons_succ, i64_w, i32_w]
        rfl
      refine take_ (i := 6) (N := some 80) (v := ?_) (a' := ?_) #[true, true, true, true, true, true, true, true, true, false, false, false, false, false, false, false, false, false] rfl rfl (by kernel_rfl) (fun _ _ _ h => h) (Or.inl ⟨by rfl, ?_⟩) hHeld ?_ ?_
      rotate_left
      · rintro w' ⟨s0, s1, s2, s3, s4⟩
        go_simp
        with_reducible rfl
      rotate_left
      · simp only [Act.put, List.setIfInBounds_toArray, List.set_cons_zero, List.set_cons_succ, i64_w, i32_w]
        rfl
      refine take_ (i := 9) (N := some 83) (v := ?_) (a' := ?_) #[true, true, true, true, true, true, true, true, true, true, false, false, false, false, false, false, false, false] rfl rfl (by kernel_rfl) (fun _ _ _ h => h) (Or.inl ⟨by rfl, ?_⟩) hHeld ?_ ?_
      rotate_left
      · rintro w' ⟨s0, s1, s2, s3, s4⟩
        go_simp
        with_reducible rfl
      rotate_left
      · simp only [Act.put, List.setIfInBounds_toArray, List.set_cons_zero, List.set_cons_succ, i64_w, i32_w]
        rfl
      refine pure_ (i := 10) (N := some 84) (v := ?_) (a' := ?_) #[true, true, true, true, true, true, true, true, true, true, true, false, false, false, false, false, false, false] rfl rfl (by kernel_rfl) (fun _ _ _ h => h) (Or.inl ⟨by rfl, ?_⟩) ?_ ?_
      rotate_left
      · intro w'
        go_simp
        with_reducible rfl
      rotate_left
      · simp only [Act.put, List.setIfInBounds_toArray, List.set_cons_zero, List.set_cons_succ, i64_w, i32_w]
        rfl
      refine take_ (i := 11) (N := some 85) (v := ?_) (a' := ?_) #[true, true, true, true, true, true, true, true, true, true, true, true, false, false, false, false, false, false] rfl rfl (by kernel_rfl) (fun _ _ _ h => h) (Or.inl ⟨by rfl, ?_⟩) hHeld ?_ ?_
      rotate_left
      · rintro w' ⟨s0, s1, s2, s3, s4⟩
        go_simp
        with_reducible rfl
      rotate_left
      · simp only [Act.put, List.setIfInBounds_toArray, List.set_cons_zero, List.set_cons_succ, i64_w, i32_w]
        rfl
      refine one_ (i := 12) (N := some 86) #[true, true, true, true, true, true, true, true, true, true, true, true, true, false, false, false, false, false] rfl rfl (by kernel_rfl) (by decide) (fun K hK => ?_)
      refine goes_ Try.func7 (by kernel_rfl) rfl #[.int .i64 xop, .int .i64 v, .int .i64 u] (by rfl) rfl rfl (by simp only [List.map_toArray, List.map_cons, List.map_nil]; rfl) ?_
      with_reducible refine (HOP.out _).mono ?_
      rintro e w3 ⟨rfl, nq, rfl⟩
      refine ⟨_, rfl, ?_⟩
      refine hK.out _ _ ⟨y0, y2, cna, y3, cnb⟩ (fun hHeld => ?_)
      clear hK K
      refine norm_ (a' := ?_) ?_ ?_
      rotate_left
      · show Act.put _ (some 86) _ = _
        simp only [Act.put, List.setIfInBounds_toArray, List.set_cons_zero, List.set_cons_succ, i64_w, i32_w]
        rfl
      refine pure_ (i := 13) (N := some 73) (v := ?_) (a' := ?_) #[true, true, true, true, true, true, true, true, true, true, true, true, true, true, false, false, false, false] rfl rfl (by kernel_rfl) (fun _ _ _ h => h) (Or.inl ⟨by rfl, ?_⟩) ?_ ?_
      rotate_left
      · intro w'
        go_simp
        with_reducible rfl
      rotate_left
      · simp only [Act.put, List.setIfInBounds_toArray, List.set_cons_zero, List.set_cons_succ, i64_w, i32_w]
        rfl
      refine pure_ (i := 14) (N := some 87) (v := ?_) (a' := ?_) #[true, true, true, true, true, true, true, true, true, true, true, true, true, true, true, false, false, false] rfl rfl (by kernel_rfl) (fun _ _ _ h => h) (Or.inl ⟨by rfl, ?_⟩) ?_ ?_
      rotate_left
      · intro w'
        go_simp
        with_reducible rfl
      rotate_left
      · simp only [Act.put, List.setIfInBounds_toArray, List.set_cons_zero, List.set_cons_succ, i64_w, i32_w]
        rfl
      refine pure_ (i := 15) (N := some 88) (v := ?_) (a' := ?_) #[true, true, true, true, true, true, true, true, true, true, true, true, true, true, true, true, false, false] rfl rfl (by kernel_rfl) (fun _ _ _ h => h) (Or.inl ⟨by rfl, ?_⟩) ?_ ?_
      rotate_left
      · intro w'
        go_simp
        with_reducible rfl
      rotate_left
      · simp only [Act.put, List.setIfInBounds_toArray, List.set_cons_zero, List.set_cons_succ, i64_w, i32_w]
        rfl
      refine pure_ (i := 16) (N := some 18) (v := ?_) (a' := ?_) #[true, true, true, true, true, true, true, true, true, true, true, true, true, true, true, true, true, false] rfl rfl (by kernel_rfl) (fun _ _ _ h => h) (Or.inl ⟨by rfl, ?_⟩) ?_ ?_
      rotate_left
      · intro w'
        go_simp
        with_reducible rfl
      rotate_left
      · simp only [Act.put, List.setIfInBounds_toArray, List.set_cons_zero, List.set_cons_succ, i64_w, i32_w]
        rfl
      refine pure_ (i := 17) (N := some 19) (v := ?_) (a' := ?_) #[true, true, true, true, true, true, true, true, true, true, true, true, true, true, true, true, true, true] rfl rfl (by kernel_rfl) (fun _ _ _ h => h) (Or.inl ⟨by rfl, ?_⟩) ?_ ?_
      rotate_left
      · intro w'
        go_simp
        with_reducible rfl
      rotate_left
      · simp only [Act.put, List.setIfInBounds_toArray, List.set_cons_zero, List.set_cons_succ, i64_w, i32_w]
        rfl
      refine done_ (by kernel_rfl) ?_
      -- REGION 12 B ENDS
      go_wp2_with (fail)
      go_roundg gk
      case measure => omega
      case rel => exact ⟨rest, r.set nd z, Rn.tick mm, tq, Ar2, cr - 1, rfl, hrl2, by rw [List.length_set]; exact hrR, by omega, HIR, HGO2, ⟨(HLP.out.drewN (1 + nq)).setr nd z⟩⟩

end Go.Proofs.Ytjmgfpfdkfelhaa.PRunDeep

-- By a program of this session (wip/tools/mkprint.py), for this claim.
import Derived.Test.YtfdccgpbdcdgmaaPLogRoomx0
import Derived.Test.YtfdccgpbdcdgmaaPLogRoomx4
import Derived.Test.YtfdccgpbdcdgmaaPLogRoomx6
namespace Go.Proofs.Ytfdccgpbdcdgmaa.PLogRoom
open Go.RowKit Go.Proofs.YtfdccgpbdcdgmaaW.PrintWords Go.Proofs.YtfdccgpbdcdgmaaW.PrintLast Go.Proofs.YtfdccgpbdcdgmaaW.PrintMore
attribute [local go_sem] max2_int min2_int max_two min_two max_three min_three max_four min_four   -- for this text's walks alone
set_option linter.unusedVariables false
set_option linter.unusedSimpArgs false

/-! ### log_first: function 38 (by hand) -/
set_option maxHeartbeats 4000000 in
set_option maxRecDepth 100000 in
/-- Two calls, the second one if the first one went well. -/
theorem log_first.two (g1 g2 : Nat) (a1 a2 : Array Value) (eg1 : ∀ args w, (callFunc g1 args).run Try.prog w = .ok (.enter g1 args) w) (eg2 : ∀ args w, (callFunc g2 args).run Try.prog w = .ok (.enter g2 args) w) (ab : Nat) (w : World)
    (hb : w.heap[ab]? = some (.cells #[.func (.func g1) a1 #[], .func (.func g2) a2 #[]] 49 (0, 0))) (P1 P2 : Int → World → Prop)
    (h1 : Calls Try.prog g1 a1 w fun e w' => ∃ x, e = .returned (.int .i64 x) ∧ P1 x w' ∧ w'.heap[ab]? = w.heap[ab]?)
    (h2 : ∀ w', P1 0 w' → Calls Try.prog g2 a2 w' fun e w'' => ∃ x, e = .returned (.int .i64 x) ∧ P2 x w'') :
    Calls Try.prog 38 #[.slice (some ⟨ab, 0, none⟩) 2 2] w fun e w' => ∃ x, e = .returned (.int .i64 x) ∧ ((x ≠ 0 ∧ P1 x w') ∨ P2 x w') := by
  have HB := Aside0.mk hb
  have H1 := Aside0.mk h1
  have H2 := Aside0.mk h2
  clear hb h1 h2
  go_enter Try.func38, Try.ntmps38
  go_wp2_with (fail)
  go_loopg [4, 5, 8] 2 (fun gg v4 v5 v8 wq => (v8 = .int .i64 0 ∧ 2 ≤ gg ∧ Aside0 (wq = w)) ∨ (v8 = .int .i64 1 ∧ 1 ≤ gg ∧ Aside0 (P1 0 wq ∧ wq.heap[ab]? = w.heap[ab]?)) ∨ (v8 = .int .i64 2 ∧ Aside0 (P2 0 wq)))
  case atStart => exact .inl ⟨rfl, Nat.le_refl _, ⟨rfl⟩⟩
  case round =>
    rcases hrel with ⟨rfl, hgg, HW⟩ | ⟨rfl, hgg, HP⟩ | ⟨rfl, HP⟩
    · obtain ⟨gk, rfl⟩ : ∃ q, gk = q + 1 := by
        cases gk with
        | zero => omega
        | succ q => exact ⟨q, rfl⟩
      obtain rfl := HW.out
      have c0 : wr.cell? ⟨ab, 0, none⟩ = some (.func (.func g1) a1 #[]) := cell_of_row wr ab 0 _ _ _ HB.out
      go_upto_region 5 with (go_at_fn g1; (try simp only [Array.append_empty, Array.empty_append]); (with_reducible refine H1.out.mono ?_); rintro e w' ⟨x, rfl, hp, hk⟩; have HP := Aside0.mk (And.intro hp hk); clear hp hk c0)
      by_cases hx : x = 0
      · subst hx
        go_wp2_with (fail)
        go_roundg gk
        case measure => omega
        case rel => exact .inr (.inl ⟨rfl, by omega, HP⟩)
      · have d1 : (x != 0) = true := bne_iff_ne.2 hx
        go_wp2_with (fail)
        go_ret
        exact ⟨x, rfl, .inl ⟨hx, HP.out.1⟩⟩
    · obtain ⟨gk, rfl⟩ : ∃ q, gk = q + 1 := by
        cases gk with
        | zero => omega
        | succ q => exact ⟨q, rfl⟩
      have c0 : wr.cell? ⟨ab, 1, none⟩ = some (.func (.func g2) a2 #[]) := cell_of_row wr ab 1 _ _ _ (HP.out.2.trans HB.out)
      have H2r := Aside0.mk (H2.out wr HP.out.1)
      go_upto_region 5 with (go_at_fn g2; (try simp only [Array.append_empty, Array.empty_append]); (with_reducible refine H2r.out.mono ?_); rintro e w' ⟨x, rfl, hp⟩; have HP2 := Aside0.mk hp; clear hp c0)
      by_cases hx : x = 0
      · subst hx
        go_wp2_with (fail)
        go_roundg gk
        case measure => omega
        case rel => exact .inr (.inr ⟨rfl, HP2⟩)
      · have d1 : (x != 0) = true := bne_iff_ne.2 hx
        go_wp2_with (fail)
        go_ret
        exact ⟨x, rfl, .inr HP2.out⟩
    · go_wp2_with (fail)
      go_ret
      exact ⟨0, rfl, .inr HP.out⟩

/-! ### log_Open: function 14 (by hand) -/
/-- An old world's blocks stay, where a new log's alone is turned. -/
theorem log_Open.dk_new {base gl : Nat} {w W1 W2 : World} (h : Dk.B base w W1) (hgl : w.heap.size ≤ gl) (hk : Lg.K base gl W1 W2) : Dk.B base w W2 := ⟨h.b.trans hk.b, fun k cells t e h1 h2 => by
  have e1 := h.f k cells t e h1 h2
  have hkl : k < w.heap.size := (Array.getElem?_eq_some_iff.1 e).1
  exact (hk.k.2 k (Nat.lt_of_lt_of_le hkl h.size) (by omega) (by simp)).trans e1⟩
def log_Open.Post (s : Dk.S) (base g n : Nat) (w : World) (r : Dk.S × Lg.L × List ByteArray × Int) (e : Ending) (w' : World) : Prop := ∃ pv rv, e = .returned (.tuple #[pv, rv, .int .i64 r.2.2.2]) ∧ Tw.D w' base g n r.1 ∧ Dk.B base w w' ∧
  ((r.2.2.2 ≠ 0 ∧ pv = .pointer none ∧ rv = .slice none 0 0) ∨ (r.2.2.2 = 0 ∧ ∃ gl, pv = .pointer (some ⟨gl, 0, none⟩) ∧ w.heap.size ≤ gl ∧ Lg.At w' base gl g r.2.1 ∧ Kd.R Kd.string 9 w' w.heap.size (fun _ => True) rv r.2.2.1))
set_option maxHeartbeats 16000000 in
set_option maxRecDepth 100000 in
theorem log_Open.walk (base g n : Nat) (s : Dk.S) (w : World) (hd : Tw.D w base g n s) (hin : Dk.In s) (hb : base ≤ w.heap.size)
    (hH : ∀ (gl : Nat) (l : Lg.L) (W : World), Lg.At W base gl g l → Tw.D W base g n s → (l.half = 0 ∨ l.half = 1) → 0 ≤ l.epoch → base ≤ W.heap.size → Calls Try.prog 39 #[.pointer (some ⟨gl, 0, none⟩)] W fun e w' => e = .returned (.int .i64 (Lg.head s l).2) ∧ Tw.D w' base g (n + 1) (Lg.head s l).1 ∧ Lg.At w' base gl g l ∧ Dk.B base W w')
    (hBr : ∀ (l : Lg.L) (W : World), Tw.D W base g (n + 1) (Lg.head s l).1 → Calls Try.prog 26 #[.pointer (some ⟨g, 0, none⟩)] W fun e w' => e = .returned (.int .i64 (Dk.barr (Lg.head s l).1).2) ∧ Tw.D w' base g (n + 1) (Dk.barr (Lg.head s l).1).1 ∧ Dk.B base W w') :
    Calls Try.prog 14 #[.pointer (some ⟨g, 0, none⟩)] w (log_Open.Post s base g (n + 1) w (Lg.openL s)) := by
  have weak : ∀ {W : World} {s' : Dk.S}, Tw.D W base g n s' → Tw.D W base g (n + 1) s' := fun h => by
    obtain ⟨mb, n', ov, hn', h⟩ := h
    exact ⟨mb, n', ov, by omega, h⟩
  have HWK : Aside0 (∀ {W : World} {s' : Dk.S}, Tw.D W base g n s' → Tw.D W base g (n + 1) s') := ⟨weak⟩
  clear weak
  have hB1 := (Below.refl w.heap.size w).alloc (Nat.le_refl _) (.cells (Lg.arr g Lg.L0) 74)
  have HL1 : Aside0 (Lg.At (w.alloc (.cells (Lg.arr g Lg.L0) 74)) base w.heap.size g Lg.L0) := ⟨⟨Hw.blk_nw w _, hb⟩⟩
  have HD1 := Aside0.mk (hd.below hB1)
  have HB1 := Aside0.mk (Dk.B.of hB1 hb)
  have hb1 : base ≤ (w.alloc (.cells (Lg.arr g Lg.L0) 74)).heap.size := Nat.le_trans hb hB1.size
  have HHD := Aside0.mk hH
  have HBR := Aside0.mk hBr
  clear hH hBr hd hB1
  cases hoff : s.off with
  | true =>
    have HO : Aside0 (Lg.openL s = (s, Lg.L0, [], 33)) := ⟨by unfold Lg.openL; rw [if_pos hoff]⟩
    rw [HO.out]
    have HHS := Aside0.mk (log_Log_heads.off_calls base w.heap.size g n Lg.L0 s _ HL1.out HD1.out hoff)
    clear HO hoff hin
    have hq : (.cells (Lg.arr g Lg.L0) 74 : Obj) = .cells #[.pointer (some ⟨g, 0, none⟩), .int .i64 0, .int .i64 0, .int .i64 0, .int .i64 0, .int .i64 0] 74 := rfl
    rw [hq] at HHS HD1 HB1
    clear hq hb1 HL1
    go_enter Try.func14, Try.ntmps14
    go_wp2_with (go_at_call 36; (with_reducible refine HHS.out.mono ?_); rintro e w9 ⟨rfl, rfl⟩)
    go_ret3
    exact ⟨_, _, rfl, HWK.out HD1.out, HB1.out, .inl ⟨show (33 : Int) ≠ 0 by decide, rfl, rfl⟩⟩
  | false =>
    obtain ⟨l1, hl1⟩ : ∃ l1, Lg.heads s Lg.L0 = l1 := ⟨_, rfl⟩
    have hfine := Lg.heads_fine s
    rw [hl1] at hfine
    obtain ⟨hhalf, hep0, hepm⟩ := hfine
    obtain ⟨R, hR⟩ : ∃ R, Lg.scanL s l1 = R := ⟨_, rfl⟩
    have HHS := Aside0.mk (log_Log_heads.on_calls base w.heap.size g n Lg.L0 s _ HL1.out HD1.out hin hoff hb1)
    rw [hl1] at HHS
    have HSC : Aside0 (∀ W, Lg.At W base w.heap.size g l1 → Tw.D W base g n s → base ≤ W.heap.size → Calls Try.prog 37 #[.pointer (some ⟨w.heap.size, 0, none⟩)] W fun e w' => ∃ v, e = .returned (.tuple #[v, .int .i64 0]) ∧ Kd.R Kd.string 9 w' W.heap.size (fun _ => True) v R.1 ∧ Lg.At w' base w.heap.size g { l1 with next := R.2 } ∧ Lg.K base w.heap.size W w') := ⟨fun W hL hD hbW => by
      have e := log_Log_scan.calls base w.heap.size g n l1 s W hL hD hin hoff hbW hhalf
      rw [hR] at e
      exact e⟩
    obtain ⟨l2, hl2⟩ : ∃ l2 : Lg.L, { l1 with epoch := l1.epoch + 1, next := R.2 } = l2 := ⟨_, rfl⟩
    have HO : Aside0 (Lg.openL s = if 1099511627776 ≤ l1.epoch then (s, l1, [], 50) else if (Lg.head s l2).2 ≠ 0 then ((Lg.head s l2).1, l2, [], (Lg.head s l2).2) else if (Dk.barr (Lg.head s l2).1).2 ≠ 0 then ((Dk.barr (Lg.head s l2).1).1, l2, [], (Dk.barr (Lg.head s l2).1).2) else ((Dk.barr (Lg.head s l2).1).1, l2, R.1, 0)) := ⟨by
      unfold Lg.openL
      rw [if_neg (by rw [hoff]; decide), hl1]
      simp only [hR, hl2]⟩
    have hep2 : 0 ≤ l2.epoch := by rw [← hl2]; show 0 ≤ l1.epoch + 1; omega
    have hhalf2 : l2.half = 0 ∨ l2.half = 1 := by rw [← hl2]; exact hhalf
    have HL2 := Lib.hid hl2
    clear hl2
    obtain ⟨RR, hRR⟩ : ∃ RR, Lg.openL s = RR := ⟨_, rfl⟩
    rw [hRR] at HO ⊢
    clear hRR hR hl1 hoff hin
    have hq : (.cells (Lg.arr g Lg.L0) 74 : Obj) = .cells #[.pointer (some ⟨g, 0, none⟩), .int .i64 0, .int .i64 0, .int .i64 0, .int .i64 0, .int .i64 0] 74 := rfl
    rw [hq] at HHS HD1 HB1 HL1 hb1
    clear hq
    have hmf : ∀ (fn : Fn) (first cap : Array Value) (w : World), (Instr.makeFunc fn first cap).run Try.prog w = .ok (.func fn first cap) w := fun _ _ _ _ => rfl
    go_enter Try.func14, Try.ntmps14
    go_upto_region 8 with (first | (go_at_call 36; (with_reducible refine HHS.out.mono ?_); rintro e w2 ⟨rfl, hL2, hK2⟩; have HL := Aside0.mk hL2; have HD := Aside0.mk (HL1.out.disk hK2.k HD1.out); have HB := Aside0.mk (log_Open.dk_new HB1.out (Nat.le_refl _) hK2); have hb2 := Nat.le_trans hb1 hK2.size; clear hL2 hK2 HHS HL1 HD1 HB1 hb1) | (go_at_call 37; (with_reducible refine (HSC.out _ HL.out HD.out hb2).mono ?_); rintro e w3 ⟨rv, rfl, hrv, hL3, hK3⟩; have HRV := Aside0.mk (Kd.R_lower hrv HB.out.size); have HD := Aside0.mk (HL.out.disk hK3.k HD.out); have HL := Aside0.mk hL3; have HB := Aside0.mk (log_Open.dk_new HB.out (Nat.le_refl _) hK3); have hb3 := Nat.le_trans hb2 hK3.size; clear hrv hL3 hK3 HSC))
    have c1 := HL.out.c1
    have f1 := HL.out.fz 1
    by_cases hmx : 1099511627776 ≤ l1.epoch
    · have d1 : decide (1099511627776 ≤ l1.epoch) = true := decide_eq_true hmx
      dsimp only at c1
      go_wp2_with (fail)
      go_ret3
      rw [HO.out, if_pos (show 1099511627776 ≤ l1.epoch by omega)]
      exact ⟨_, _, rfl, HWK.out HD.out, HB.out, .inl ⟨show (50 : Int) ≠ 0 by decide, rfl, rfl⟩⟩
    have HMX := Aside0.mk hmx
    have d1 : decide (1099511627776 ≤ l1.epoch) = false := decide_eq_false hmx
    have HK5 := Aside0.mk (Lg.set_keep w3 base w.heap.size 1 (.int .i64 (l1.epoch + 1)) hb)
    have HD := Aside0.mk (HL.out.disk HK5.out.k HD.out)
    have HB := Aside0.mk (log_Open.dk_new HB.out (Nat.le_refl _) HK5.out)
    have HRV := Aside0.mk (Lg.row_log (k := 1) (u := .int .i64 (l1.epoch + 1)) HRV.out HL.out.ob)
    have HL := Aside0.mk (HL.out.set1 (l1.epoch + 1))
    have HL : Aside0 (Lg.At (w3.setCell ⟨w.heap.size, 1, none⟩ (.int .i64 (l1.epoch + 1))) base w.heap.size g l2) := ⟨by rw [← HL2.out]; exact HL.out⟩
    have hb5 : base ≤ (w3.setCell ⟨w.heap.size, 1, none⟩ (.int .i64 (l1.epoch + 1))).heap.size := Nat.le_trans hb3 HK5.out.size
    have hw5 : w.heap.size ≤ (w3.setCell ⟨w.heap.size, 1, none⟩ (.int .i64 (l1.epoch + 1))).heap.size := HB.out.size
    dsimp only at c1
    clear HK5 HL2 hhalf
    go_upto_region 11 with fail
    clear c1 f1 d1 hmx hep0 hepm
    generalize w3.setCell ⟨w.heap.size, 1, none⟩ (.int .i64 (l1.epoch + 1)) = W5 at HL HD HB HRV hb5 hw5 ⊢
    have hbe := (Below.refl W5.heap.size W5).alloc (Nat.le_refl _) (.cells #[.func (.func 39) #[.pointer (some ⟨w.heap.size, 0, none⟩)] #[], .func (.func 26) #[.pointer (some ⟨g, 0, none⟩)] #[]] 49)
    have HF := Aside0.mk (Hw.blk_nw W5 (.cells #[.func (.func 39) #[.pointer (some ⟨w.heap.size, 0, none⟩)] #[], .func (.func 26) #[.pointer (some ⟨g, 0, none⟩)] #[]] 49))
    have HL := Aside0.mk (HL.out.below hbe)
    have HD := Aside0.mk (HD.out.below hbe)
    have HB := Aside0.mk (HB.out.trans (Dk.B.of hbe hb5))
    have HRV := Aside0.mk (Kd.R_step HRV.out (fun k _ hk => hbe.block k hk))
    have hb6 : base ≤ (W5.alloc (.cells #[.func (.func 39) #[.pointer (some ⟨w.heap.size, 0, none⟩)] #[], .func (.func 26) #[.pointer (some ⟨g, 0, none⟩)] #[]] 49)).heap.size := Nat.le_trans hb5 hbe.size
    clear hbe hb5 hw5
    have HFI : Aside0 (Calls Try.prog 38 #[.slice (some ⟨W5.heap.size, 0, none⟩) 2 2] (W5.alloc (.cells #[.func (.func 39) #[.pointer (some ⟨w.heap.size, 0, none⟩)] #[], .func (.func 26) #[.pointer (some ⟨g, 0, none⟩)] #[]] 49)) fun e w' => ∃ x, e = .returned (.int .i64 x) ∧ ((x ≠ 0 ∧ x = (Lg.head s l2).2 ∧ Tw.D w' base g (n + 1) (Lg.head s l2).1 ∧ Lg.At w' base w.heap.size g l2 ∧ Dk.B base (W5.alloc (.cells #[.func (.func 39) #[.pointer (some ⟨w.heap.size, 0, none⟩)] #[], .func (.func 26) #[.pointer (some ⟨g, 0, none⟩)] #[]] 49)) w') ∨ ((Lg.head s l2).2 = 0 ∧ x = (Dk.barr (Lg.head s l2).1).2 ∧ Tw.D w' base g (n + 1) (Dk.barr (Lg.head s l2).1).1 ∧ Lg.At w' base w.heap.size g l2 ∧ Dk.B base (W5.alloc (.cells #[.func (.func 39) #[.pointer (some ⟨w.heap.size, 0, none⟩)] #[], .func (.func 26) #[.pointer (some ⟨g, 0, none⟩)] #[]] 49)) w'))) := ⟨by
      refine log_first.two 39 26 #[.pointer (some ⟨w.heap.size, 0, none⟩)] #[.pointer (some ⟨g, 0, none⟩)] (fun _ _ => by kernel_rfl) (fun _ _ => by kernel_rfl) W5.heap.size (W5.alloc (.cells #[.func (.func 39) #[.pointer (some ⟨w.heap.size, 0, none⟩)] #[], .func (.func 26) #[.pointer (some ⟨g, 0, none⟩)] #[]] 49)) HF.out
        (fun x w' => x = (Lg.head s l2).2 ∧ Tw.D w' base g (n + 1) (Lg.head s l2).1 ∧ Lg.At w' base w.heap.size g l2 ∧ Dk.B base (W5.alloc (.cells #[.func (.func 39) #[.pointer (some ⟨w.heap.size, 0, none⟩)] #[], .func (.func 26) #[.pointer (some ⟨g, 0, none⟩)] #[]] 49)) w')
        (fun x w' => (Lg.head s l2).2 = 0 ∧ x = (Dk.barr (Lg.head s l2).1).2 ∧ Tw.D w' base g (n + 1) (Dk.barr (Lg.head s l2).1).1 ∧ Lg.At w' base w.heap.size g l2 ∧ Dk.B base (W5.alloc (.cells #[.func (.func 39) #[.pointer (some ⟨w.heap.size, 0, none⟩)] #[], .func (.func 26) #[.pointer (some ⟨g, 0, none⟩)] #[]] 49)) w') ?_ ?_
      · refine (HHD.out w.heap.size l2 _ HL.out HD.out hhalf2 hep2 hb6).mono ?_
        rintro e w' ⟨rfl, hd', hl', hb'⟩
        exact ⟨_, rfl, ⟨rfl, hd', hl', hb'⟩, hb'.f _ _ _ HF.out (by decide) (by decide)⟩
      · rintro w' ⟨h0, hd', hl', hb'⟩
        refine (HBR.out l2 w' hd').mono ?_
        rintro e w'' ⟨rfl, hd2, hb2'⟩
        exact ⟨_, rfl, h0.symm, rfl, hd2, hl'.dk hb2', hb'.trans hb2'⟩⟩
    clear HHD HBR
    go_upto_region 12 with (go_at_call 38; (with_reducible refine HFI.out.mono ?_); rintro e w9 ⟨x, rfl, hx⟩; have HX := Aside0.mk hx; clear hx)
    rcases HX.out with ⟨hx0, hx, hd9, hl9, hb9⟩ | ⟨hh0, hx, hd9, hl9, hb9⟩
    · have HD := Aside0.mk hd9
      have HB := Aside0.mk (HB.out.trans hb9)
      have HH := Aside0.mk (show (Lg.head s l2).2 ≠ 0 from fun q => hx0 (hx.trans q))
      have HXX := Aside0.mk hx
      have d1 : (x != 0) = true := bne_iff_ne.2 hx0
      clear HX hx hd9 hl9 hb9
      go_wp2_with (fail)
      go_ret3
      rw [HO.out, if_neg (show ¬ 1099511627776 ≤ l1.epoch by have := HMX.out; omega), if_pos HH.out, HXX.out]
      exact ⟨_, _, rfl, HD.out, HB.out, .inl ⟨HH.out, rfl, rfl⟩⟩
    · have HH := Aside0.mk (show ¬ (Lg.head s l2).2 ≠ 0 from fun q => q hh0)
      have HD := Aside0.mk hd9
      have HL := Aside0.mk hl9
      have HRV := Aside0.mk (Lg.row_dk HRV.out hb9)
      have HB := Aside0.mk (HB.out.trans hb9)
      have HXX := Aside0.mk hx
      clear HX hx hd9 hl9 hb9 hh0
      by_cases hx0 : x = 0
      · subst hx0
        go_wp2_with (fail)
        go_ret3
        rw [HO.out, if_neg (show ¬ 1099511627776 ≤ l1.epoch by have := HMX.out; omega), if_neg HH.out, if_neg (fun q => q HXX.out.symm)]
        exact ⟨_, _, rfl, HD.out, HB.out, .inr ⟨rfl, _, rfl, Nat.le_refl _, HL.out, HRV.out⟩⟩
      · have d1 : (x != 0) = true := bne_iff_ne.2 hx0
        go_wp2_with (fail)
        go_ret3
        rw [HO.out, if_neg (show ¬ 1099511627776 ≤ l1.epoch by have := HMX.out; omega), if_neg HH.out, if_pos (fun q => hx0 (HXX.out.trans q)), HXX.out]
        exact ⟨_, _, rfl, HD.out, HB.out, .inl ⟨fun q => hx0 (HXX.out.trans q), rfl, rfl⟩⟩

/-! ### log_Log_Room: function 18 (by hand) -/
theorem log_Log_Room.calls (base gl g : Nat) (l : Lg.L) (w : World) (h : Lg.At w base gl g l) (hn : 0 ≤ l.next ∧ l.next ≤ 127) : Calls Try.prog 18 #[.pointer (some ⟨gl, 0, none⟩)] w fun e w' => e = .returned (.int .i64 (127 - l.next)) ∧ w' = w := by
  have c4 := h.c4
  obtain ⟨hn1, hn2⟩ := hn
  clear h
  generalize l.next = n at c4 hn1 hn2 ⊢
  go_enter Try.func18, Try.ntmps18
  go_wp2
  go_ret
  exact ⟨by first | rfl | simp, rfl⟩

/-! ### cubbyref04_Cut: function 47 -/
def cubbyref04_Cut.l0 : Nat → ByteArray → List ByteArray → Option (List ByteArray)
  | 0, _, _ => none
  | k + 1, x0, x3 => if (x0.size : Int) > 96 then (if 0 ≤ 96 then (if 96 ≤ (x0.size : Int) then (if x3.length < 8796093022208 then (cubbyref04_Cut.l0 k (x0.extract 96 x0.size) (x3 ++ [x0.extract 0 96])) else (none)) else (none)) else (none)) else (if x3.length < 8796093022208 then (some (x3 ++ [x0])) else (none))
def cubbyref04_Cut.f (k : Nat) (a0 : ByteArray) : Option (List ByteArray) := cubbyref04_Cut.l0 k a0 (([] : List ByteArray))
theorem cubbyref04_Cut.mono_l : ∀ k, (∀ y0 y1, LeO (cubbyref04_Cut.l0 k y0 y1) (cubbyref04_Cut.l0 (k + 1) y0 y1))
  | 0 => fun _ _ r h => by simp [cubbyref04_Cut.l0] at h
  | k + 1 => by
    have ih0 := cubbyref04_Cut.mono_l k
    · intro y0 y1
      unfold cubbyref04_Cut.l0
      repeat' first
      | (with_reducible exact ih0 _ _)
      | (with_reducible exact LeO.refl _)
      | (with_reducible exact LeO.none _)
      | (with_reducible refine LeO.ite ?_ ?_)
      | (with_reducible refine LeO.bind ?_ (fun _ => ?_))
      | exact ih0 _ _
      | exact LeO.none _
      | refine LeO.ite ?_ ?_
      | refine LeO.bind ?_ (fun _ => ?_)
theorem cubbyref04_Cut.mono : ∀ a0 k, LeO (cubbyref04_Cut.f k a0) (cubbyref04_Cut.f (k + 1) a0) := by
  intro a0 k
  have ih0 := cubbyref04_Cut.mono_l k
  unfold cubbyref04_Cut.f
  repeat' first
      | (with_reducible exact ih0 _ _)
      | (with_reducible exact LeO.refl _)
      | (with_reducible exact LeO.none _)
      | (with_reducible refine LeO.ite ?_ ?_)
      | (with_reducible refine LeO.bind ?_ (fun _ => ?_))
      | exact ih0 _ _
      | exact LeO.none _
      | refine LeO.ite ?_ ?_
      | refine LeO.bind ?_ (fun _ => ?_)
set_option maxHeartbeats 8000000 in
set_option maxRecDepth 100000 in
theorem cubbyref04_Cut.calls (k : Nat) (a0 : ByteArray) (r : List ByteArray) (w : World) (h : cubbyref04_Cut.f k a0 = some r) :
    Calls Try.prog 47 #[.string a0] w fun e w' => ∃ v0_ : Value, e = .returned (v0_) ∧ Kd.R Kd.string 9 w' w.heap.size (fun _ => True) v0_ r ∧ Below w.heap.size w w' := by
  have HB := Aside0.mk (Below.refl w.heap.size w)
  have H : (cubbyref04_Cut.l0 k a0 (([] : List ByteArray))) = some r := h
  clear h
  obtain ⟨y107, hy107⟩ : ∃ y_ : List ByteArray, y_ = (([] : List ByteArray)) := ⟨_, rfl⟩
  replace H : (cubbyref04_Cut.l0 k a0 y107) = some r := by first | (rw [hy107]; with_reducible exact H) | (have H2_ := (Option.bind_some _ _).symm.trans H; rw [hy107]; with_reducible exact H2_) | (have H2_ := (Option.bind_some _ _).symm.trans H; with_reducible exact H2_) | with_reducible exact H | (rw [hy107]; exact H) | exact H
  have Ny107 := Aside0.mk hy107
  clear hy107
  have H' := Aside0.mk H
  clear H
  go_enter Try.func47, Try.ntmps47
  go_wp2_with (first | ((with_reducible refine gate_dst (N := 4) rfl ?_); refine Kd.R_lit Kd.string _ 9 ?hg (N := 4) ?hd (xs := ([] : List ByteArray)) (inner := []) (ok := fun _ => True) (okp := fun _ => True) ?hr ?hp (fun _ hk => hk) trivial (Below.refl _ _) (Nat.le_refl _) (by simp) ?_; (case hd => rfl); (case hg => rfl); (case hr => first | (go_simp; done) | (go_simp; rfl)); (case hp => exact (Reps.none _ _)); intro v108 w2 ho3 hb hg_ hnew_; clear hg_ hnew_; (first | rw [← Ny107.out] at ho3 | (simp only [Int.reduceToNat] at ho3; rw [← Ny107.out] at ho3)); have n0_ := Aside0.mk (Kd.R_lower ho3 (below_size (by repeat (first | (with_reducible first | exact HB.out | apply below_alloc | apply pw_below_drewN | apply below_drew1) | exact HB.out)))); have n1_ := Aside0.mk (below_step (by repeat (first | (with_reducible first | exact HB.out | apply below_alloc | apply pw_below_drewN | apply below_drew1) | exact HB.out)) hb); clear HB; have HO109 := n0_; have HB := n1_; clear n0_ n1_; clear hb ho3))
  go_loopg [0, 3] k (fun kq v0 v3 w' => ∃ (x0_1 : ByteArray) (x3_1 : List ByteArray), v0 = .string x0_1 ∧ Aside0 (cubbyref04_Cut.l0 kq x0_1 x3_1 = some r) ∧ Aside0 (kq ≤ k) ∧ Aside0 (Kd.R Kd.string 9 w' w.heap.size (fun _ => True) v3 x3_1) ∧ Aside0 (Below w.heap.size w w'))
  case atStart => exact ⟨(a0), (y107), (by first | rfl | (simp; done) | (simp [*]; done)), H', ⟨Nat.le_refl _⟩, ⟨by (with_reducible repeat (first | apply Kd.R_alloc | apply Kd.R_drewN | apply Kd.R_drew)); exact HO109.out⟩, ⟨by repeat (first | (with_reducible first | exact HB.out | apply below_alloc | apply pw_below_drewN | apply below_drew1) | exact HB.out)⟩⟩
  case round =>
    clear H'
    try clear p2
    obtain ⟨x0_1, x3_1, rfl, HA, HK1, HO_3, HB⟩ := hrel
    cases gk with
    | zero => exact absurd HA.out (by simp [cubbyref04_Cut.l0])
    | succ k1 =>
      have H := HA.out
      clear HA
      simp only [cubbyref04_Cut.l0] at H
      by_cases c4 : (x0_1.size : Int) > 96
      · rw [if_pos c4] at H
        have c4b0 : decide (96 < (x0_1.size : Int)) = true := decide_eq_true c4
        have c4b1 : decide (96 < x0_1.size) = true := decide_eq_true (by omega)
        clear c4
        by_cases c5 : 0 ≤ 96
        · rw [if_pos c5] at H
          have c5b0 := eq_true c5
          have c5b1 : decide (0 ≤ 96) = true := decide_eq_true c5
          clear c5
          by_cases c6 : 96 ≤ (x0_1.size : Int)
          · rw [if_pos c6] at H
            have c6b0 := eq_true c6
            have c6b1 : decide (96 ≤ (x0_1.size : Int)) = true := decide_eq_true c6
            clear c6
            by_cases c7 : x3_1.length < 8796093022208
            · rw [if_pos c7] at H
              have LMc7 := Aside0.mk c7
              clear c7
              obtain ⟨y110, hy110⟩ : ∃ y_ : List ByteArray, y_ = (x3_1 ++ [x0_1.extract 0 96]) := ⟨_, rfl⟩
              replace H : (cubbyref04_Cut.l0 k1 (x0_1.extract 96 x0_1.size) y110) = some r := by first | (rw [hy110]; with_reducible exact H) | (have H2_ := (Option.bind_some _ _).symm.trans H; rw [hy110]; with_reducible exact H2_) | (have H2_ := (Option.bind_some _ _).symm.trans H; with_reducible exact H2_) | with_reducible exact H | (rw [hy110]; exact H) | exact H
              have Ny110 := Aside0.mk hy110
              clear hy110
              have c8b0 := eq_true (of_decide_eq_true (by first | (with_reducible assumption) | assumption) : 96 ≤ (x0_1.size : Int))
              have H' := Aside0.mk H
              clear H
              go_wp2_with (first | ((with_reducible refine gate_builtin (b := .append) (xs := #[.tmp 8, .tmp 11]) rfl ?_); at_builtin; refine Kd.R_append Kd.string (w0 := w) w.heap.size rfl (.tmp 8) (.tmp 11) 35 9 (.string ⟨#[]⟩) 16 rfl Try.underlying35 info9 rfl (by decide) (by omega) u3 x3_1 (x0_1.extract 0 96) [.string (x0_1.extract 0 96)] (fun _ => True) (fun _ => False) rfl rfl ?aP (fun _ hk => hk.elim) ?aF ?aO ?aB ?aS ?aL ?_; (case aP => exact rfl); (case aB => exact (by repeat (first | (with_reducible first | exact HB.out | apply below_alloc | apply pw_below_drewN | apply below_drew1) | exact HB.out))); (case aF => exact (fun _ _ => trivial)); (case aO => exact (by (with_reducible repeat (first | apply Kd.R_alloc | apply Kd.R_drewN | apply Kd.R_drew)); exact HO_3.out)); (case aS => exact (below_size (by repeat (first | (with_reducible first | exact HB.out | apply below_alloc | apply pw_below_drewN | apply below_drew1) | exact HB.out)))); (case aL => have := LMc7.out; omega); intro v111 w9 ho hb hg hat; rw [← Ny110.out] at ho; have n0_ := Aside0.mk (hb); have n1_ := Aside0.mk (ho); clear HB; clear HO_3; have HB := n0_; have HO112 := n1_; clear n0_ n1_; clear ho hb hg hat))
              go_roundg k1
              case measure => have := HK1.out; omega
              case rel => exact ⟨(x0_1.extract 96 x0_1.size), (y110), (by first | rfl | (simp; done) | (simp [*]; done)), H', ⟨by have := HK1.out; omega⟩, ⟨by (with_reducible repeat (first | apply Kd.R_alloc | apply Kd.R_drewN | apply Kd.R_drew)); exact HO112.out⟩, ⟨by repeat (first | (with_reducible first | exact HB.out | apply below_alloc | apply pw_below_drewN | apply below_drew1) | exact HB.out)⟩⟩
            · rw [if_neg c7] at H
              exact absurd H (by simp)
          · rw [if_neg c6] at H
            exact absurd H (by simp)
        · rw [if_neg c5] at H
          exact absurd H (by simp)
      · rw [if_neg c4] at H
        have c4b0 : decide (96 < (x0_1.size : Int)) = false := decide_eq_false c4
        have c4b1 : decide (96 < x0_1.size) = false := decide_eq_false (by omega)
        clear c4
        by_cases c10 : x3_1.length < 8796093022208
        · rw [if_pos c10] at H
          have LMc10 := Aside0.mk c10
          clear c10
          obtain ⟨y113, hy113⟩ : ∃ y_ : List ByteArray, y_ = (x3_1 ++ [x0_1]) := ⟨_, rfl⟩
          replace H : (some y113) = some r := by first | (rw [hy113]; with_reducible exact H) | (have H2_ := (Option.bind_some _ _).symm.trans H; rw [hy113]; with_reducible exact H2_) | (have H2_ := (Option.bind_some _ _).symm.trans H; with_reducible exact H2_) | with_reducible exact H | (rw [hy113]; exact H) | exact H
          have Ny113 := Aside0.mk hy113
          clear hy113
          obtain rfl := Option.some.inj H
          go_wp2_with (first | ((with_reducible refine gate_builtin (b := .append) (xs := #[.tmp 15, .tmp 17]) rfl ?_); at_builtin; refine Kd.R_append Kd.string (w0 := w) w.heap.size rfl (.tmp 15) (.tmp 17) 35 9 (.string ⟨#[]⟩) 16 rfl Try.underlying35 info9 rfl (by decide) (by omega) u3 x3_1 x0_1 [.string x0_1] (fun _ => True) (fun _ => False) rfl rfl ?aP (fun _ hk => hk.elim) ?aF ?aO ?aB ?aS ?aL ?_; (case aP => exact rfl); (case aB => exact (by repeat (first | (with_reducible first | exact HB.out | apply below_alloc | apply pw_below_drewN | apply below_drew1) | exact HB.out))); (case aF => exact (fun _ _ => trivial)); (case aO => exact (by (with_reducible repeat (first | apply Kd.R_alloc | apply Kd.R_drewN | apply Kd.R_drew)); exact HO_3.out)); (case aS => exact (below_size (by repeat (first | (with_reducible first | exact HB.out | apply below_alloc | apply pw_below_drewN | apply below_drew1) | exact HB.out)))); (case aL => have := LMc10.out; omega); intro v114 w11 ho hb hg hat; rw [← Ny113.out] at ho; have n0_ := Aside0.mk (hb); have n1_ := Aside0.mk (ho); clear HB; clear HO_3; have HB := n0_; have HO115 := n1_; clear n0_ n1_; clear ho hb hg hat))
          go_ret
          exact ⟨_, by first | rfl | (simp [errW_none, errW_some] <;> rfl) | (simp [*, errW_none, errW_some] <;> rfl), by (with_reducible repeat (first | apply Kd.R_alloc | apply Kd.R_drewN | apply Kd.R_drew)); exact HO115.out, by repeat (first | (with_reducible first | exact HB.out | apply below_alloc | apply pw_below_drewN | apply below_drew1) | exact HB.out)⟩
        · rw [if_neg c10] at H
          exact absurd H (by simp)

/-! ### cubbyref05_Many: function 19 -/
def cubbyref05_Many.l0 : Nat → List ByteArray → Int → Int → Option (Int)
  | 0, _, _, _ => none
  | k + 1, x0, x3, x4 => if x4 < (x0.length : Int) then (if x3 ≤ 127 then (if 0 ≤ x4 then ((cubbyref04_Cut.f k (rdOf ByteArray.empty x0 x4)).bind fun t117 => (cubbyref05_Many.l0 k x0 (wrap64 (x3 + (t117.length : Int))) (wrap64 (x4 + 1)))) else (none)) else (some x3)) else (some x3)
def cubbyref05_Many.f (k : Nat) (l0 : List ByteArray) : Option (Int) := cubbyref05_Many.l0 k l0 0 0
theorem cubbyref05_Many.mono_l : ∀ k, (∀ y0 y1 y2, LeO (cubbyref05_Many.l0 k y0 y1 y2) (cubbyref05_Many.l0 (k + 1) y0 y1 y2))
  | 0 => fun _ _ _ r h => by simp [cubbyref05_Many.l0] at h
  | k + 1 => by
    have ih0 := cubbyref05_Many.mono_l k
    · intro y0 y1 y2
      unfold cubbyref05_Many.l0
      repeat' first
      | (with_reducible exact ih0 _ _ _)
      | (with_reducible exact cubbyref04_Cut.mono _ _)
      | (with_reducible exact LeO.refl _)
      | (with_reducible exact LeO.none _)
      | (with_reducible refine LeO.ite ?_ ?_)
      | (with_reducible refine LeO.bind ?_ (fun _ => ?_))
      | exact ih0 _ _ _
      | exact cubbyref04_Cut.mono _ _
      | exact LeO.none _
      | refine LeO.ite ?_ ?_
      | refine LeO.bind ?_ (fun _ => ?_)
theorem cubbyref05_Many.mono : ∀ a0 k, LeO (cubbyref05_Many.f k a0) (cubbyref05_Many.f (k + 1) a0) := by
  intro a0 k
  have ih0 := cubbyref05_Many.mono_l k
  unfold cubbyref05_Many.f
  repeat' first
      | (with_reducible exact ih0 _ _ _)
      | (with_reducible exact cubbyref04_Cut.mono _ _)
      | (with_reducible exact LeO.refl _)
      | (with_reducible exact LeO.none _)
      | (with_reducible refine LeO.ite ?_ ?_)
      | (with_reducible refine LeO.bind ?_ (fun _ => ?_))
      | exact ih0 _ _ _
      | exact cubbyref04_Cut.mono _ _
      | exact LeO.none _
      | refine LeO.ite ?_ ?_
      | refine LeO.bind ?_ (fun _ => ?_)
set_option maxHeartbeats 8000000 in
set_option maxRecDepth 100000 in
theorem cubbyref05_Many.calls (k : Nat) (A0 : Option Addr) (c0 : Nat) (l0 : List ByteArray) (r : Int) (w : World) (hr0 : Kd.C Kd.string w A0 l0.length l0) (hc0 : l0.length ≤ c0) (h : cubbyref05_Many.f k l0 = some r) :
    Calls Try.prog 19 #[.slice A0 l0.length c0] w fun e w' => e = .returned (.int .i64 r) ∧ Below w.heap.size w w' := by
  have HR0 := Aside0.mk hr0
  have HC0 := Aside0.mk hc0
  clear hr0 hc0
  have HB := Aside0.mk (Below.refl w.heap.size w)
  have H : (cubbyref05_Many.l0 k l0 0 0) = some r := h
  clear h
  have H' := Aside0.mk H
  clear H
  go_enter Try.func19, Try.ntmps19
  go_wp2
  go_loopg [3, 4] k (fun kq v3 v4 w' => ∃ (x3_1 : Int) (x4_1 : Int), v3 = .int .i64 x3_1 ∧ v4 = .int .i64 x4_1 ∧ Aside0 (cubbyref05_Many.l0 kq l0 x3_1 x4_1 = some r) ∧ Aside0 (kq ≤ k) ∧ Aside0 (Below w.heap.size w w'))
  case atStart => exact ⟨(0), (0), (by first | rfl | (simp; done) | (simp [*]; done)), (by first | rfl | (simp; done) | (simp [*]; done)), H', ⟨Nat.le_refl _⟩, ⟨by repeat (first | (with_reducible first | exact HB.out | apply below_alloc | apply pw_below_drewN | apply below_drew1) | exact HB.out)⟩⟩
  case round =>
    clear H'
    try clear c1
    obtain ⟨x3_1, x4_1, rfl, rfl, HA, HK1, HB⟩ := hrel
    cases gk with
    | zero => exact absurd HA.out (by simp [cubbyref05_Many.l0])
    | succ k1 =>
      have H := HA.out
      clear HA
      simp only [cubbyref05_Many.l0] at H
      by_cases c2 : x4_1 < (l0.length : Int)
      · rw [if_pos c2] at H
        have c2b0 : decide (x4_1 < (l0.length : Int)) = true := decide_eq_true c2
        clear c2
        by_cases c3 : x3_1 ≤ 127
        · rw [if_pos c3] at H
          have c3b0 : decide (x3_1 ≤ 127) = true := decide_eq_true c3
          clear c3
          by_cases c4 : 0 ≤ x4_1
          · rw [if_pos c4] at H
            have c4b0 : decide (0 ≤ x4_1) = true := decide_eq_true c4
            clear c4
            replace H := Option.bind_eq_some_iff.mp H
            obtain ⟨t117, A50, H⟩ := H
            replace H : (cubbyref05_Many.l0 k1 l0 (wrap64 (x3_1 + (t117.length : Int))) (wrap64 (x4_1 + 1))) = some r := H
            have A5 := Aside0.mk A50
            clear A50
            have H' := Aside0.mk H
            clear H
            have p116 : 0 ≤ (x4_1 : Int) := of_decide_eq_true (by first | (with_reducible assumption) | assumption)
            have q116 : x4_1 < (l0.length : Int) := of_decide_eq_true (by first | (with_reducible assumption) | assumption)
            obtain ⟨ad116, e116, hx116_0⟩ := Kd.at_string HR0.out x4_1 p116 q116
            cases e116
            replace hx116_0 := (HB.out.cell (World.block_lt_of_cell? w _ hx116_0)).trans hx116_0
            replace p116 := eq_true p116
            replace q116 := eq_true q116
            go_wp2_with (first | ((with_reducible refine gate_callee (f := 47) rfl ?_); refine goesL_ (some 20) rfl rfl Try.func47 (by kernel_rfl) rfl #[.string (rdOf ByteArray.empty l0 x4_1)] rfl (by (try simp only [List.map_toArray, List.map_cons, List.map_nil]); first | done | rfl | (simp only [List.length_drop, List.length_take]; rfl)) ?_; (with_reducible refine (cubbyref04_Cut.calls k1 (rdOf ByteArray.empty l0 x4_1) t117 _ A5.out).mono ?_); rintro e w6 ⟨v118, rfl, ho0, hb⟩; refine ⟨_, rfl, ?_⟩; have n0_ := Aside0.mk (Kd.R_lower ho0 (below_size (by repeat (first | (with_reducible first | exact HB.out | apply below_alloc | apply pw_below_drewN | apply below_drew1) | exact HB.out)))); have n1_ := Aside0.mk (below_step (by repeat (first | (with_reducible first | exact HB.out | apply below_alloc | apply pw_below_drewN | apply below_drew1) | exact HB.out)) hb); clear HB; have HO119 := n0_; have HB := n1_; clear n0_ n1_; (try clear hb); (try clear hb2); (try clear hk); (try clear hi); (try clear ho0); obtain ⟨Ao7, co7, eo7⟩ := Kd.R_slice HO119.out; subst eo7))
            go_roundg k1
            case measure => have := HK1.out; omega
            case rel => exact ⟨(wrap64 (x3_1 + (t117.length : Int))), (wrap64 (x4_1 + 1)), (by first | rfl | (simp; done) | (simp [*]; done)), (by first | rfl | (simp; done) | (simp [*]; done)), H', ⟨by have := HK1.out; omega⟩, ⟨by repeat (first | (with_reducible first | exact HB.out | apply below_alloc | apply pw_below_drewN | apply below_drew1) | exact HB.out)⟩⟩
          · rw [if_neg c4] at H
            exact absurd H (by simp)
        · rw [if_neg c3] at H
          have c3b0 : decide (x3_1 ≤ 127) = false := decide_eq_false c3
          clear c3
          obtain rfl := Option.some.inj H
          go_wp2
          go_ret
          exact ⟨by first | rfl | (simp [errW_none, errW_some] <;> rfl) | (simp [*, errW_none, errW_some] <;> rfl), by repeat (first | (with_reducible first | exact HB.out | apply below_alloc | apply pw_below_drewN | apply below_drew1) | exact HB.out)⟩
      · rw [if_neg c2] at H
        have c2b0 : decide (x4_1 < (l0.length : Int)) = false := decide_eq_false c2
        clear c2
        obtain rfl := Option.some.inj H
        go_wp2
        go_ret
        exact ⟨by first | rfl | (simp [errW_none, errW_some] <;> rfl) | (simp [*, errW_none, errW_some] <;> rfl), by repeat (first | (with_reducible first | exact HB.out | apply below_alloc | apply pw_below_drewN | apply below_drew1) | exact HB.out)⟩

-- NOT PRINTED: function 88 (chunk_pieces_1)

-- NOT PRINTED: function 82 (chunk_pieces)

/-! ### chunk_Cut: function 66 (by hand) -/
def chunk_Cut.f (s : ByteArray) : Option (List ByteArray) := if s.size ≤ 140737488355328 then some (Ct.pcs s) else none
theorem chunk_Cut.calls (s : ByteArray) (r : List ByteArray) (w : World) (h : chunk_Cut.f s = some r) : Calls Try.prog 66 #[.string s] w fun e w' => ∃ v0_ : Value, e = .returned (v0_) ∧ Kd.R Kd.string 9 w' w.heap.size (fun _ => True) v0_ r ∧ Below w.heap.size w w' := by
  by_cases hs : s.size ≤ 140737488355328
  · have e : Ct.pcs s = r := by
      unfold chunk_Cut.f at h
      rw [if_pos hs] at h
      exact Option.some.inj h
    rw [← e]
    exact Ct.cut s hs w
  · exact absurd h (by unfold chunk_Cut.f; rw [if_neg hs]; simp)

/-! ### log_chunks: function 48 -/
mutual
def log_chunks.l0 : Nat → Int → Int → Int → List (S25) → List ByteArray → Int → Int → Option ((List (S25)) × Bool)
  | 0, _, _, _, _, _, _, _ => none
  | k + 1, x1, x2, x3, x10, x16, x17, x18 => if x18 < x17 then (if 0 ≤ x18 then (if x18 < (x16.length : Int) then ((chunk_Cut.f (rdOf ByteArray.empty x16 x18)).bind fun t121 => (log_chunks.l1 k x1 x2 x3 x10 t121 x16 x17 x18 t121 (t121.length : Int) 0)) else (none)) else (none)) else (some (x10, true))
def log_chunks.l1 : Nat → Int → Int → Int → List (S25) → List ByteArray → List ByteArray → Int → Int → List ByteArray → Int → Int → Option ((List (S25)) × Bool)
  | 0, _, _, _, _, _, _, _, _, _, _, _ => none
  | k + 1, x1, x2, x3, x10, x13, x16, x17, x18, x24, x25, x26 => if x26 < x25 then (if 0 ≤ x26 then (if x26 < (x24.length : Int) then (if (x10.length : Int) = x3 then (some (([] : List (S25)), false)) else (if x10.length < 3518437208883 then (log_chunks.l1 k x1 x2 x3 (x10 ++ [(⟨x1, wrap64 (x2 + (x10.length : Int)), (x26 == 0), (x26 == (wrap64 ((x13.length : Int) - 1))), rdOf ByteArray.empty x24 x26⟩ : S25)]) x13 x16 x17 x18 x24 x25 (wrap64 (x26 + 1))) else (none))) else (none)) else (none)) else (log_chunks.l0 k x1 x2 x3 x10 x16 x17 (wrap64 (x18 + 1)))
end
def log_chunks.f (k : Nat) (l0 : List ByteArray) (a1 : Int) (a2 : Int) (a3 : Int) : Option ((List (S25)) × Bool) := log_chunks.l0 k a1 a2 a3 ([] : List (S25)) l0 (l0.length : Int) 0
theorem log_chunks.mono_l : ∀ k, (∀ y0 y1 y2 y3 y4 y5 y6, LeO (log_chunks.l0 k y0 y1 y2 y3 y4 y5 y6) (log_chunks.l0 (k + 1) y0 y1 y2 y3 y4 y5 y6)) ∧ (∀ y0 y1 y2 y3 y4 y5 y6 y7 y8 y9 y10, LeO (log_chunks.l1 k y0 y1 y2 y3 y4 y5 y6 y7 y8 y9 y10) (log_chunks.l1 (k + 1) y0 y1 y2 y3 y4 y5 y6 y7 y8 y9 y10))
  | 0 => ⟨fun _ _ _ _ _ _ _ r h => by simp [log_chunks.l0] at h, fun _ _ _ _ _ _ _ _ _ _ _ r h => by simp [log_chunks.l1] at h⟩
  | k + 1 => by
    obtain ⟨ih0, ih1⟩ := log_chunks.mono_l k
    refine ⟨?_, ?_⟩
    · intro y0 y1 y2 y3 y4 y5 y6
      unfold log_chunks.l0
      repeat' first
      | (with_reducible exact ih0 _ _ _ _ _ _ _)
      | (with_reducible exact ih1 _ _ _ _ _ _ _ _ _ _ _)
      | (with_reducible exact LeO.refl _)
      | (with_reducible exact LeO.none _)
      | (with_reducible refine LeO.ite ?_ ?_)
      | (with_reducible refine LeO.bind ?_ (fun _ => ?_))
      | exact ih0 _ _ _ _ _ _ _
      | exact ih1 _ _ _ _ _ _ _ _ _ _ _
      | exact LeO.none _
      | refine LeO.ite ?_ ?_
      | refine LeO.bind ?_ (fun _ => ?_)
    · intro y0 y1 y2 y3 y4 y5 y6 y7 y8 y9 y10
      unfold log_chunks.l1
      repeat' first
      | (with_reducible exact ih0 _ _ _ _ _ _ _)
      | (with_reducible exact ih1 _ _ _ _ _ _ _ _ _ _ _)
      | (with_reducible exact LeO.refl _)
      | (with_reducible exact LeO.none _)
      | (with_reducible refine LeO.ite ?_ ?_)
      | (with_reducible refine LeO.bind ?_ (fun _ => ?_))
      | exact ih0 _ _ _ _ _ _ _
      | exact ih1 _ _ _ _ _ _ _ _ _ _ _
      | exact LeO.none _
      | refine LeO.ite ?_ ?_
      | refine LeO.bind ?_ (fun _ => ?_)
theorem log_chunks.mono : ∀ a0 a1 a2 a3 k, LeO (log_chunks.f k a0 a1 a2 a3) (log_chunks.f (k + 1) a0 a1 a2 a3) := by
  intro a0 a1 a2 a3 k
  obtain ⟨ih0, ih1⟩ := log_chunks.mono_l k
  unfold log_chunks.f
  repeat' first
      | (with_reducible exact ih0 _ _ _ _ _ _ _)
      | (with_reducible exact ih1 _ _ _ _ _ _ _ _ _ _ _)
      | (with_reducible exact LeO.refl _)
      | (with_reducible exact LeO.none _)
      | (with_reducible refine LeO.ite ?_ ?_)
      | (with_reducible refine LeO.bind ?_ (fun _ => ?_))
      | exact ih0 _ _ _ _ _ _ _
      | exact ih1 _ _ _ _ _ _ _ _ _ _ _
      | exact LeO.none _
      | refine LeO.ite ?_ ?_
      | refine LeO.bind ?_ (fun _ => ?_)
set_option maxHeartbeats 8000000 in
set_option maxRecDepth 100000 in
theorem log_chunks.calls (k : Nat) (A0 : Option Addr) (c0 : Nat) (l0 : List ByteArray) (a1 : Int) (a2 : Int) (a3 : Int) (r1 : List (S25)) (r2 : Bool) (w : World) (hr0 : Kd.C Kd.string w A0 l0.length l0) (hc0 : l0.length ≤ c0) (h : log_chunks.f k l0 a1 a2 a3 = some (r1, r2)) :
    Calls Try.prog 48 #[.slice A0 l0.length c0, .int .i64 a1, .int .i64 a2, .int .i64 a3] w fun e w' => ∃ v0_ : Value, e = .returned (.tuple #[v0_, .bool r2]) ∧ Kd.R k25 25 w' w.heap.size (fun _ => True) v0_ r1 ∧ Below w.heap.size w w' := by
  have hu25 := Try.underlying25
  have HR0 := Aside0.mk hr0
  have HC0 := Aside0.mk hc0
  clear hr0 hc0
  have HB := Aside0.mk (Below.refl w.heap.size w)
  have H : (log_chunks.l0 k a1 a2 a3 ([] : List (S25)) l0 (l0.length : Int) 0) = some (r1, r2) := h
  clear h
  have H' := Aside0.mk H
  clear H
  go_enter Try.func48, Try.ntmps48
  go_wp2
  go_loopg [10, 18] k (fun kq v10 v18 w' => ∃ (x10_1 : List (S25)) (x18_1 : Int), v18 = .int .i64 x18_1 ∧ Aside0 (log_chunks.l0 kq a1 a2 a3 x10_1 l0 (l0.length : Int) x18_1 = some (r1, r2)) ∧ Aside0 (kq ≤ k) ∧ Aside0 (Kd.R k25 25 w' w.heap.size (fun _ => True) v10 x10_1) ∧ Aside0 (Below w.heap.size w w'))
  case atStart => exact ⟨(([] : List (S25))), (0), (by first | rfl | (simp; done) | (simp [*]; done)), H', ⟨Nat.le_refl _⟩, ⟨by first | exact Kd.R_nil _ _ _ _ _ | exact Kd.N_nil _ _ _ _ _ | exact Kd.V_nil _ _ _ _ _ | exact Kd.Q_nil _ _ _ _ _ | exact Kd.S_nil _ _ _ _ _⟩, ⟨by repeat (first | (with_reducible first | exact HB.out | apply below_alloc | apply pw_below_drewN | apply below_drew1) | exact HB.out)⟩⟩
  case round =>
    clear H'
    try clear p2
    try clear c4
    obtain ⟨x10_1, x18_1, rfl, HA, HK1, HO_10, HB⟩ := hrel
    cases gk with
    | zero => exact absurd HA.out (by simp [log_chunks.l0])
    | succ k1 =>
      have H := HA.out
      clear HA
      simp only [log_chunks.l0] at H
      by_cases c5 : x18_1 < (l0.length : Int)
      · rw [if_pos c5] at H
        have c5b0 : decide (x18_1 < (l0.length : Int)) = true := decide_eq_true c5
        clear c5
        by_cases c6 : 0 ≤ x18_1
        · rw [if_pos c6] at H
          have c6b0 : decide (0 ≤ x18_1) = true := decide_eq_true c6
          clear c6
          by_cases c7 : x18_1 < (l0.length : Int)
          · rw [if_pos c7] at H
            have c7b0 : decide (x18_1 < (l0.length : Int)) = true := decide_eq_true c7
            clear c7
            replace H := Option.bind_eq_some_iff.mp H
            obtain ⟨t121, A80, H⟩ := H
            replace H : (log_chunks.l1 k1 a1 a2 a3 x10_1 t121 l0 (l0.length : Int) x18_1 t121 (t121.length : Int) 0) = some (r1, r2) := H
            have A8 := Aside0.mk A80
            clear A80
            have H' := Aside0.mk H
            clear H
            have p120 : 0 ≤ (x18_1 : Int) := of_decide_eq_true (by first | (with_reducible assumption) | assumption)
            have q120 : x18_1 < (l0.length : Int) := of_decide_eq_true (by first | (with_reducible assumption) | assumption)
            obtain ⟨ad120, e120, hx120_0⟩ := Kd.at_string HR0.out x18_1 p120 q120
            cases e120
            replace hx120_0 := (HB.out.cell (World.block_lt_of_cell? w _ hx120_0)).trans hx120_0
            replace p120 := eq_true p120
            replace q120 := eq_true q120
            go_wp2_with (first | ((with_reducible refine gate_callee (f := 66) rfl ?_); refine goesL_ (some 23) rfl rfl Try.func66 (by kernel_rfl) rfl #[.string (rdOf ByteArray.empty l0 x18_1)] rfl (by (try simp only [List.map_toArray, List.map_cons, List.map_nil]); first | done | rfl | (simp only [List.length_drop, List.length_take]; rfl)) ?_; (with_reducible refine (chunk_Cut.calls (rdOf ByteArray.empty l0 x18_1) t121 _ A8.out).mono ?_); rintro e w9 ⟨v122, rfl, ho0, hb⟩; refine ⟨_, rfl, ?_⟩; have n0_ := Aside0.mk (Kd.R_below (by (with_reducible repeat (first | apply Kd.R_alloc | apply Kd.R_drewN | apply Kd.R_drew)); exact HO_10.out) hb); have n1_ := Aside0.mk (Kd.R_lower ho0 (below_size (by repeat (first | (with_reducible first | exact HB.out | apply below_alloc | apply pw_below_drewN | apply below_drew1) | exact HB.out)))); have n2_ := Aside0.mk (below_step (by repeat (first | (with_reducible first | exact HB.out | apply below_alloc | apply pw_below_drewN | apply below_drew1) | exact HB.out)) hb); clear HO_10; clear HB; have HO_10 := n0_; have HO123 := n1_; have HB := n2_; clear n0_ n1_ n2_; (try clear hb); (try clear hb2); (try clear hk); (try clear hi); (try clear ho0); obtain ⟨Ao10, co10, eo10⟩ := Kd.R_slice HO123.out; subst eo10))
            go_loopg [10, 26] k1 (fun kq v10 v26 w' => ∃ (x10_2 : List (S25)) (x26_2 : Int), v26 = .int .i64 x26_2 ∧ Aside0 (log_chunks.l1 kq a1 a2 a3 x10_2 t121 l0 (l0.length : Int) x18_1 t121 (t121.length : Int) x26_2 = some (r1, r2)) ∧ Aside0 (kq ≤ k1) ∧ Aside0 (Kd.R k25 25 w' w.heap.size (fun _ => True) v10 x10_2) ∧ Aside0 (Kd.R Kd.string 9 w' w.heap.size (fun _ => True) (.slice Ao10 t121.length co10) t121) ∧ Aside0 (Kd.R Kd.string 9 w' w.heap.size (fun _ => True) (.slice Ao10 t121.length co10) t121) ∧ Aside0 (Below w.heap.size w w'))
            case atStart => exact ⟨(x10_1), (0), (by first | rfl | (simp; done) | (simp [*]; done)), H', ⟨Nat.le_refl _⟩, ⟨by (with_reducible repeat (first | apply Kd.R_alloc | apply Kd.R_drewN | apply Kd.R_drew)); exact HO_10.out⟩, ⟨by (with_reducible repeat (first | apply Kd.R_alloc | apply Kd.R_drewN | apply Kd.R_drew)); exact HO123.out⟩, ⟨by (with_reducible repeat (first | apply Kd.R_alloc | apply Kd.R_drewN | apply Kd.R_drew)); exact HO123.out⟩, ⟨by repeat (first | (with_reducible first | exact HB.out | apply below_alloc | apply pw_below_drewN | apply below_drew1) | exact HB.out)⟩⟩
            case round =>
              clear H'
              try clear p1
              try clear q1
              try clear hx1
              try clear p2
              try clear c4
              try clear c5
              try clear c5b0
              try clear c6
              try clear c6b0
              try clear c7
              try clear c7b0
              try clear hx120_0
              try clear p120
              try clear p2
              try clear q120
              obtain ⟨x10_2, x26_2, rfl, HA, HK2, HO_10, HO_13, HO_24, HB⟩ := hrel
              cases gk with
              | zero => exact absurd HA.out (by simp [log_chunks.l1])
              | succ k2 =>
                have H := HA.out
                clear HA
                simp only [log_chunks.l1] at H
                by_cases c11 : x26_2 < (t121.length : Int)
                · rw [if_pos c11] at H
                  have c11b0 : decide (x26_2 < (t121.length : Int)) = true := decide_eq_true c11
                  clear c11
                  by_cases c12 : 0 ≤ x26_2
                  · rw [if_pos c12] at H
                    have c12b0 : decide (0 ≤ x26_2) = true := decide_eq_true c12
                    clear c12
                    by_cases c13 : x26_2 < (t121.length : Int)
                    · rw [if_pos c13] at H
                      have c13b0 : decide (x26_2 < (t121.length : Int)) = true := decide_eq_true c13
                      clear c13
                      by_cases c14 : (x10_2.length : Int) = a3
                      · rw [if_pos c14] at H
                        have c14b0 : ((x10_2.length : Int) == a3) = true := beq_iff_eq.mpr c14
                        have c14b1 : ((x10_2.length : Int) != a3) = false := bne_eq_false_iff_eq.mpr c14
                        clear c14
                        simp only [Option.some.injEq, Prod.mk.injEq] at H
                        obtain ⟨rfl, rfl⟩ := H
                        have p124 : 0 ≤ (x26_2 : Int) := of_decide_eq_true (by first | (with_reducible assumption) | assumption)
                        have q124 : x26_2 < (t121.length : Int) := of_decide_eq_true (by first | (with_reducible assumption) | assumption)
                        obtain ⟨ad124, e124, hx124_0⟩ := Kd.at_string (Kd.R_reads' HO_24.out).2.2 x26_2 p124 q124
                        cases e124
                        replace p124 := eq_true p124
                        replace q124 := eq_true q124
                        obtain ⟨Ao15, co15, eo15⟩ := Kd.R_slice HO_10.out
                        subst eo15
                        go_wp2
                        go_ret2
                        exact ⟨_, by first | rfl | (simp [errW_none, errW_some] <;> rfl) | (simp [*, errW_none, errW_some] <;> rfl), by first | exact Kd.R_nil _ _ _ _ _ | exact Kd.N_nil _ _ _ _ _ | exact Kd.V_nil _ _ _ _ _ | exact Kd.Q_nil _ _ _ _ _ | exact Kd.S_nil _ _ _ _ _, by repeat (first | (with_reducible first | exact HB.out | apply below_alloc | apply pw_below_drewN | apply below_drew1) | exact HB.out)⟩
                      · rw [if_neg c14] at H
                        have c14b0 : ((x10_2.length : Int) == a3) = false := beq_eq_false_iff_ne.mpr c14
                        have c14b1 : ((x10_2.length : Int) != a3) = true := bne_iff_ne.mpr c14
                        by_cases c16 : x10_2.length < 3518437208883
                        · rw [if_pos c16] at H
                          have LMc16 := Aside0.mk c16
                          clear c16
                          obtain ⟨y125, hy125⟩ : ∃ y_ : List (S25), y_ = (x10_2 ++ [(⟨a1, wrap64 (a2 + (x10_2.length : Int)), (x26_2 == 0), (x26_2 == (wrap64 ((t121.length : Int) - 1))), rdOf ByteArray.empty t121 x26_2⟩ : S25)]) := ⟨_, rfl⟩
                          replace H : (log_chunks.l1 k2 a1 a2 a3 y125 t121 l0 (l0.length : Int) x18_1 t121 (t121.length : Int) (wrap64 (x26_2 + 1))) = some (r1, r2) := by first | (rw [hy125]; with_reducible exact H) | (have H2_ := (Option.bind_some _ _).symm.trans H; rw [hy125]; with_reducible exact H2_) | (have H2_ := (Option.bind_some _ _).symm.trans H; with_reducible exact H2_) | with_reducible exact H | (rw [hy125]; exact H) | exact H
                          have Ny125 := Aside0.mk hy125
                          clear hy125
                          have H' := Aside0.mk H
                          clear H
                          have p124 : 0 ≤ (x26_2 : Int) := of_decide_eq_true (by first | (with_reducible assumption) | assumption)
                          have q124 : x26_2 < (t121.length : Int) := of_decide_eq_true (by first | (with_reducible assumption) | assumption)
                          obtain ⟨ad124, e124, hx124_0⟩ := Kd.at_string (Kd.R_reads' HO_24.out).2.2 x26_2 p124 q124
                          cases e124
                          replace p124 := eq_true p124
                          replace q124 := eq_true q124
                          obtain ⟨Ao17, co17, eo17⟩ := Kd.R_slice HO_10.out
                          subst eo17
                          go_wp2_with (first | ((with_reducible refine gate_builtin (b := .append) (xs := #[.tmp 35, .tmp 50]) rfl ?_); at_builtin; refine Kd.R_append k25 (w0 := w) w.heap.size rfl (.tmp 35) (.tmp 50) 22 25 (.agg #[(.int .i64 0), (.int .i64 0), (.bool false), (.bool false), (.string ⟨#[]⟩)]) 40 rfl Try.underlying22 info25 rfl (by decide) (by omega) (.slice Ao17 x10_2.length co17) x10_2 (⟨a1, wrap64 (a2 + (x10_2.length : Int)), (x26_2 == 0), (x26_2 == (wrap64 ((t121.length : Int) - 1))), rdOf ByteArray.empty t121 x26_2⟩ : S25) [.int .i64 a1, .int .i64 (wrap64 (a2 + (x10_2.length : Int))), .bool (x26_2 == 0), .bool (x26_2 == (wrap64 ((t121.length : Int) - 1))), .string (rdOf ByteArray.empty t121 x26_2)] (fun _ => True) (fun _ => False) rfl rfl ?aP (fun _ hk => hk.elim) ?aF ?aO ?aB ?aS ?aL ?_; (case aP => exact k25_mkM _ _ _ (⟨a1, wrap64 (a2 + (x10_2.length : Int)), (x26_2 == 0), (x26_2 == (wrap64 ((t121.length : Int) - 1))), rdOf ByteArray.empty t121 x26_2⟩ : S25)); (case aB => exact (by repeat (first | (with_reducible first | exact HB.out | apply below_alloc | apply pw_below_drewN | apply below_drew1) | exact HB.out))); (case aF => exact (fun _ _ => trivial)); (case aO => exact (by (with_reducible repeat (first | apply Kd.R_alloc | apply Kd.R_drewN | apply Kd.R_drew)); exact HO_10.out)); (case aS => exact (below_size (by repeat (first | (with_reducible first | exact HB.out | apply below_alloc | apply pw_below_drewN | apply below_drew1) | exact HB.out)))); (case aL => have := LMc16.out; omega); intro v126 w18 ho hb hg hat; rw [← Ny125.out] at ho; have n0_ := Aside0.mk (Kd.R_over' (by (with_reducible repeat (first | apply Kd.R_alloc | apply Kd.R_drewN | apply Kd.R_drew)); exact HO_13.out) (Kd.R_typed (by (with_reducible repeat (first | apply Kd.R_alloc | apply Kd.R_drewN | apply Kd.R_drew)); exact HO_10.out)) (by decide) hg); have n1_ := Aside0.mk (Kd.R_over' (by (with_reducible repeat (first | apply Kd.R_alloc | apply Kd.R_drewN | apply Kd.R_drew)); exact HO_24.out) (Kd.R_typed (by (with_reducible repeat (first | apply Kd.R_alloc | apply Kd.R_drewN | apply Kd.R_drew)); exact HO_10.out)) (by decide) hg); have n2_ := Aside0.mk (hb); have n3_ := Aside0.mk (ho); clear HO_13; clear HO_24; clear HB; clear HO_10; have HO_13 := n0_; have HO_24 := n1_; have HB := n2_; have HO127 := n3_; clear n0_ n1_ n2_ n3_; clear ho hb hg hat))
                          go_roundg k2
                          case measure => have := HK1.out; have := HK2.out; omega
                          case rel => exact ⟨(y125), (wrap64 (x26_2 + 1)), (by first | rfl | (simp; done) | (simp [*]; done)), H', ⟨by have := HK1.out; have := HK2.out; omega⟩, ⟨by (with_reducible repeat (first | apply Kd.R_alloc | apply Kd.R_drewN | apply Kd.R_drew)); exact HO127.out⟩, ⟨by (with_reducible repeat (first | apply Kd.R_alloc | apply Kd.R_drewN | apply Kd.R_drew)); exact HO_13.out⟩, ⟨by (with_reducible repeat (first | apply Kd.R_alloc | apply Kd.R_drewN | apply Kd.R_drew)); exact HO_24.out⟩, ⟨by repeat (first | (with_reducible first | exact HB.out | apply below_alloc | apply pw_below_drewN | apply below_drew1) | exact HB.out)⟩⟩
                        · rw [if_neg c16] at H
                          exact absurd H (by simp)
                    · rw [if_neg c13] at H
                      exact absurd H (by simp)
                  · rw [if_neg c12] at H
                    exact absurd H (by simp)
                · rw [if_neg c11] at H
                  have c11b0 : decide (x26_2 < (t121.length : Int)) = false := decide_eq_false c11
                  clear c11
                  have H' := Aside0.mk H
                  clear H
                  go_wp2
                  go_roundg k2
                  case measure => have := HK1.out; have := HK2.out; omega
                  case rel => exact ⟨(x10_2), (wrap64 (x18_1 + 1)), (by first | rfl | (simp; done) | (simp [*]; done)), H', ⟨by have := HK1.out; have := HK2.out; omega⟩, ⟨by (with_reducible repeat (first | apply Kd.R_alloc | apply Kd.R_drewN | apply Kd.R_drew)); exact HO_10.out⟩, ⟨by repeat (first | (with_reducible first | exact HB.out | apply below_alloc | apply pw_below_drewN | apply below_drew1) | exact HB.out)⟩⟩
          · rw [if_neg c7] at H
            exact absurd H (by simp)
        · rw [if_neg c6] at H
          exact absurd H (by simp)
      · rw [if_neg c5] at H
        have c5b0 : decide (x18_1 < (l0.length : Int)) = false := decide_eq_false c5
        clear c5
        simp only [Option.some.injEq, Prod.mk.injEq] at H
        obtain ⟨rfl, rfl⟩ := H
        go_wp2
        go_ret2
        exact ⟨_, by first | rfl | (simp [errW_none, errW_some] <;> rfl) | (simp [*, errW_none, errW_some] <;> rfl), by (with_reducible repeat (first | apply Kd.R_alloc | apply Kd.R_drewN | apply Kd.R_drew)); exact HO_10.out, by repeat (first | (with_reducible first | exact HB.out | apply below_alloc | apply pw_below_drewN | apply below_drew1) | exact HB.out)⟩

-- NOT PRINTED: function 49 (log_Log_Append_1)

/-! ### disk_due: function 30 (by hand) -/
set_option maxHeartbeats 4000000 in
set_option maxRecDepth 100000 in
theorem disk_due.calls (b k : Nat) (cs : Array Value) (t : TypeId) (n : Int) (w : World) (hb : w.heap[b]? = some (.cells cs t (0, 0))) (hk : cs[k]? = some (.int .i64 n)) (hn : -9223372036854775808 ≤ n ∧ n < 9223372036854775808) :
    Calls Try.prog 30 #[.pointer (some ⟨b, k, none⟩)] w fun e w' => e = .returned (.bool (decide (n = 1))) ∧ w'.heap[b]? = some (.cells (cs.setIfInBounds k (.int .i64 (Dk.dn n))) t (0, 0)) ∧ w.grownBy w' (some b) := by
  have hc : w.cell? ⟨b, k, none⟩ = some (.int .i64 n) := by rw [cell_of_row w b k _ _ _ hb]; exact hk
  have hf : w.frozen? ⟨b, k, none⟩ = false := by simp [World.frozen?, hb]
  by_cases h0 : 0 < n
  · have hd : Dk.dn n = n - 1 := by unfold Dk.dn; rw [if_pos h0]; exact Hw.w64 _ (by omega) (by omega)
    have hs := blk_set hb k (.int .i64 (n - 1))
    rw [hd]
    go_enter Try.func30, Try.ntmps30
    go_wp2
    go_ret
    have e : (decide (n - 1 = 0)) = decide (n = 1) := by congr 1; exact propext ⟨fun h => by omega, fun h => by omega⟩
    exact ⟨by first | (rw [← e]; rfl) | (rw [← e]; simp), hs, Dk.gset w b k _⟩
  · have hd : Dk.dn n = n := by unfold Dk.dn; rw [if_neg h0]
    rw [hd, Dk.set_same cs k _ hk]
    go_enter Try.func30, Try.ntmps30
    go_wp2
    go_ret
    exact ⟨by rw [decide_eq_false (by omega)]; rfl, hb, World.grownBy.refl _ _⟩

end Go.Proofs.Ytfdccgpbdcdgmaa.PLogRoom

-- By a program of this session (wip/tools/mkprint.py), for this claim.
import Derived.Test.YtfdccgpbdcdgmaaPLogRoomx0
import Derived.Test.YtfdccgpbdcdgmaaPLogRoomx7
import Derived.Test.YtfdccgpbdcdgmaaPLogRoomx9
namespace Go.Proofs.Ytfdccgpbdcdgmaa.PLogRoom
open Go.RowKit Go.Proofs.YtfdccgpbdcdgmaaW.PrintWords Go.Proofs.YtfdccgpbdcdgmaaW.PrintLast Go.Proofs.YtfdccgpbdcdgmaaW.PrintMore
attribute [local go_sem] max2_int min2_int max_two min_two max_three min_three max_four min_four   -- for this text's walks alone
set_option linter.unusedVariables false
set_option linter.unusedSimpArgs false

/-! ### log_Log_Append: function 20 (by hand) -/
def log_Log_Append.NQ (Q : Exit → Act → World → Prop) (e : Exit) (a : Act) (w : World) : Prop := match e with
  | .normal => Q .normal a w
  | _ => False
theorem log_Log_Append.wp_normal {P : Program} {c : Code} {Q : Exit → Act → World → Prop} {a : Act} {w : World} (h : c.wp P (log_Log_Append.NQ Q) a w) : c.wp P Q a w := wp_mono h (fun e a w q => by
  cases e <;> first | exact q | exact q.elim)
set_option maxRecDepth 100000 in
theorem log_Log_Append.dcall (la lb gl : Nat) (x er : Int) (u : FrameMode) (w : World) (h0 : w.cell? ⟨lb, 0, none⟩ = some (.int .i64 x)) (h1 : w.cell? ⟨la, 0, none⟩ = some (.pointer (some ⟨gl, 0, none⟩))) (h2 : w.cell? ⟨gl, 5, none⟩ = some (.int .i64 er)) (hf : w.frozen? ⟨gl, 5, none⟩ = false) :
    CallsD Try.prog 49 #[.pointer (some ⟨lb, 0, none⟩), .pointer (some ⟨la, 0, none⟩)] u w fun e u' w' => u' = u ∧ (e = .returned (.tuple #[]) ∧ w' = w.setCell ⟨gl, 5, none⟩ (.int .i64 x)) := by
  go_enter_d Try.func49, Try.ntmps49
  go_wp2
  go_end0
  exact ⟨rfl, rfl⟩
theorem log_Log_Append.keep {W : World} {base gl g b k : Nat} {l : Lg.L} {v : Value} (h : Lg.At W base gl g l) (hne : gl ≠ b) : Lg.At (W.setCell ⟨b, k, none⟩ v) base gl g l := ⟨(Below.heap_setCell W ⟨b, k, none⟩ v gl hne).trans h.ob, h.hg⟩
theorem log_Log_Append.bset {w W : World} {base b k : Nat} {v : Value} (h : Lg.B base w W) (hbk : w.heap.size ≤ b) (hb : base ≤ w.heap.size) : Lg.B base w (W.setCell ⟨b, k, none⟩ v) := ⟨h.b.setCell (p := ⟨b, k, none⟩) (Nat.le_trans hb hbk) v, fun j cells t e h1 h2 h3 => by
  have hj : j < w.heap.size := (Array.getElem?_eq_some_iff.1 e).1
  exact (Below.heap_setCell W ⟨b, k, none⟩ v j (by show j ≠ b; omega)).trans (h.f j cells t e h1 h2 h3)⟩
theorem log_Log_Append.blkset {W : World} {b b2 k : Nat} {v : Value} {o : Obj} (h : W.heap[b2]? = some o) (hne : b2 ≠ b) : (W.setCell ⟨b, k, none⟩ v).heap[b2]? = some o := (Below.heap_setCell W ⟨b, k, none⟩ v b2 hne).trans h
/-- What Append comes to. -/
def log_Log_Append.r (s : Dk.S) (l : Lg.L) (cks : List S25) (fits : Bool) : Dk.S × Lg.L × Int :=
  if l.err ≠ 0 then (s, l, l.err) else if fits = false then (s, l, 50) else
  if (Lg.puts l.half s (cks.map log_Log_write.toK)).2 = 0 then ((Lg.puts l.half s (cks.map log_Log_write.toK)).1, { l with next := l.next + cks.length, err := 0 }, 0) else ((Lg.puts l.half s (cks.map log_Log_write.toK)).1, { l with err := (Lg.puts l.half s (cks.map log_Log_write.toK)).2 }, (Lg.puts l.half s (cks.map log_Log_write.toK)).2)
set_option maxHeartbeats 16000000 in
set_option maxRecDepth 100000 in
theorem log_Log_Append.calls (base gl g n k : Nat) (l : Lg.L) (s : Dk.S) (A : Option Addr) (c : Nat) (recs : List ByteArray) (cks : List S25) (fits : Bool) (w : World) (h : Lg.At w base gl g l) (hd : Tw.D w base g n s) (hin : Dk.In s) (hm : s.many ≤ 70000) (hn : n ≤ 900000) (hnx : 0 ≤ l.next ∧ l.next ≤ 127) (hh : l.half = 0 ∨ l.half = 1)
    (hr : Kd.C Kd.string w A recs.length recs) (hc : recs.length ≤ c) (hf : log_chunks.f k recs l.epoch l.next (127 - l.next) = some (cks, fits)) (hcl : cks.length ≤ 127) (hq : ∀ x ∈ cks, 0 ≤ x.f1 ∧ x.f1 ≤ 127) (hb : base ≤ w.heap.size) :
    Calls Try.prog 20 #[.pointer (some ⟨gl, 0, none⟩), .slice A recs.length c] w fun e w' => e = .returned (.int .i64 (log_Log_Append.r s l cks fits).2.2) ∧ Tw.D w' base g (n + cks.length) (log_Log_Append.r s l cks fits).1 ∧ Lg.At w' base gl g (log_Log_Append.r s l cks fits).2.1 ∧ Lg.B base w w' := by
  obtain ⟨R, hR⟩ : ∃ R, log_Log_Append.r s l cks fits = R := ⟨_, rfl⟩
  have HRR := Lib.hid hR
  rw [hR]
  clear hR
  have HWK : Aside0 (∀ {W : World} {s' : Dk.S}, Tw.D W base g n s' → Tw.D W base g (n + cks.length) s') := ⟨fun h => by
    obtain ⟨mb, n', ov, hn', h⟩ := h
    exact ⟨mb, n', ov, by omega, h⟩⟩
  have HRM : Aside0 (∀ W, Lg.At W base gl g l → Calls Try.prog 18 #[.pointer (some ⟨gl, 0, none⟩)] W fun e w' => e = .returned (.int .i64 (127 - l.next)) ∧ w' = W) := ⟨fun W hL => log_Log_Room.calls base gl g l W hL hnx⟩
  have HCH : Aside0 (∀ W, Below w.heap.size w W → Calls Try.prog 48 #[.slice A recs.length c, .int .i64 l.epoch, .int .i64 l.next, .int .i64 (127 - l.next)] W fun e w' => ∃ v0_ : Value, e = .returned (.tuple #[v0_, .bool fits]) ∧ Kd.R k25 25 w' W.heap.size (fun _ => True) v0_ cks ∧ Below W.heap.size W w') := ⟨fun W hB => log_chunks.calls k A c recs l.epoch l.next (127 - l.next) cks fits W (Kd.C_below hr hB) hc hf⟩
  have HWR : Aside0 (∀ W rb Ac cc, Lg.At W base gl g l → Tw.D W base g n s → Kd.R k25 25 W rb (fun _ => True) (.slice Ac cks.length cc) cks → base ≤ W.heap.size → Calls Try.prog 50 #[.pointer (some ⟨gl, 0, none⟩), .int .i64 l.half, .slice Ac cks.length cc] W fun e w' => e = .returned (.int .i64 (Lg.puts l.half s (cks.map log_Log_write.toK)).2) ∧ Tw.D w' base g (n + cks.length) (Lg.puts l.half s (cks.map log_Log_write.toK)).1 ∧ Lg.At w' base gl g l ∧ Dk.B base W w') := ⟨fun W rb Ac cc hL hD hC hbW => log_Log_write.calls base gl g n rb l s l.half Ac cc cks W hL hD hin (by omega) (by omega) hh hC hq hbW⟩
  have hgl := h.lt
  have hB2 := ((Below.refl w.heap.size w).alloc (Nat.le_refl _) (.cells #[.pointer (some ⟨gl, 0, none⟩)] 34)).alloc (by simp) (.cells #[.int .i64 0] 32)
  have HL := Aside0.mk (h.below hB2)
  have HD := Aside0.mk (hd.below hB2)
  have HB := Aside0.mk hB2
  have HBB := Aside0.mk (Lg.B.of hB2 hb)
  have HLA := Aside0.mk (Hw.blk_al (Hw.blk_nw w (.cells #[.pointer (some ⟨gl, 0, none⟩)] 34)) (.cells #[.int .i64 0] 32))
  have HLB := Aside0.mk (Hw.blk_nw1 w (.cells #[.pointer (some ⟨gl, 0, none⟩)] 34) (.cells #[.int .i64 0] 32))
  have hmf : ∀ (fn : Fn) (first cap : Array Value) (w : World), (Instr.makeFunc fn first cap).run Try.prog w = .ok (.func fn first cap) w := fun _ _ _ _ => rfl
  obtain ⟨lep, lba, lhf, lnx, ler⟩ := l
  dsimp only at HRM HCH HWR HL hnx hh
  clear h hd hin hr hf hq hB2 hh
  obtain ⟨hnx1, hnx2⟩ := hnx
  go_enter_defers Try.func20, Try.ntmps20
  go_upto_region 1 with fail
  have hna : ¬ gl = w.heap.size := by omega
  have hnb : ¬ gl = w.heap.size + 1 := by omega
  generalize hW2 : (w.alloc (.cells #[.pointer (some ⟨gl, 0, none⟩)] 34)).alloc (.cells #[.int .i64 0] 32) = W2 at HL HD HB HBB HLA HLB ⊢
  clear hW2
  have hb2 : base ≤ W2.heap.size := Nat.le_trans hb HBB.out.size
  have a0 : W2.cell? ⟨w.heap.size, 0, none⟩ = some (.pointer (some ⟨gl, 0, none⟩)) := cell_of_row W2 _ 0 _ _ _ HLA.out
  have b0 : W2.cell? ⟨w.heap.size + 1, 0, none⟩ = some (.int .i64 0) := cell_of_row W2 _ 0 _ _ _ HLB.out
  have fb : W2.frozen? ⟨w.heap.size + 1, 0, none⟩ = false := by simp only [World.frozen?]; rw [HLB.out]; rfl
  have c5 := HL.out.c5
  dsimp only at c5
  by_cases he : ler = 0
  case neg =>
    have d1 : (ler != 0) = true := bne_iff_ne.2 he
    go_wp2_with (fail)
    have e0 : (W2.setCell ⟨w.heap.size + 1, 0, none⟩ (.int .i64 ler)).cell? ⟨w.heap.size + 1, 0, none⟩ = some (.int .i64 ler) := cell_of_row _ _ 0 _ _ _ (blk_set HLB.out 0 _)
    have e1 : (W2.setCell ⟨w.heap.size + 1, 0, none⟩ (.int .i64 ler)).frozen? ⟨w.heap.size + 1, 0, none⟩ = false := by simp only [World.frozen?]; rw [blk_set HLB.out 0 _]; rfl
    refine ⟨.int .i64 ler, by simp [results, Try.results20, go_sem, e0, e1, b0, fb], ?_⟩
    rw [← HRR.out]
    unfold log_Log_Append.r
    rw [if_pos he]
    exact ⟨rfl, HWK.out (Tw.D.set HD.out HLB.out (by decide) (by decide) _), log_Log_Append.keep HL.out hnb, log_Log_Append.bset HBB.out (Nat.le_succ _) hb⟩
  subst he
  go_upto_region 3 with fail
  have c1 := HL.out.c1
  have c4 := HL.out.c4
  dsimp only at c1 c4
  have HL := Aside0.mk HL.out.drew
  have HD := Aside0.mk HD.out.drew
  have HBB := Aside0.mk HBB.out.drew
  have HBx := Aside0.mk HB.out.drew
  refine log_Log_Append.wp_normal ?_
  refine start_ (n := 17) (S := fun w' => w'.cell? ⟨w.heap.size, 0, none⟩ = some (.pointer (some ⟨gl, 0, none⟩)) ∧ w'.cell? ⟨gl, 1, none⟩ = some (.int .i64 lep) ∧ w'.cell? ⟨gl, 4, none⟩ = some (.int .i64 lnx)) (ds := []) #[false, false, false, false, false, false, false, false, false, false, false, false, false, false, false, false, false] (by kernel_rfl) rfl rfl ⟨a0, c1, c4⟩ (fun hHeld => ?_)
  refine pure_ (i := 0) (N := some 18) (v := ?_) (a' := ?_) #[true, false, false, false, false, false, false, false, false, false, false, false, false, false, false, false, false] rfl rfl (by kernel_rfl) (fun _ _ _ h => h) (Or.inl ⟨by rfl, ?_⟩) ?_ ?_
  rotate_left
  · intro w'
    go_simp
    with_reducible rfl
  rotate_left
  · simp only [Act.put, List.setIfInBounds_toArray, List.set_cons_zero, List.set_cons_succ, i64_w, i32_w]
    rfl
  refine take_ (i := 1) (N := some 19) (v := ?_) (a' := ?_) #[true, true, false, false, false, false, false, false, false, false, false, false, false, false, false, false, false] rfl rfl (by kernel_rfl) (fun _ _ _ h => h) (Or.inl ⟨by rfl, ?_⟩) hHeld ?_ ?_
  rotate_left
  · rintro w' ⟨s0, s1, s2⟩
    go_simp
    with_reducible rfl
  rotate_left
  · simp only [Act.put, List.setIfInBounds_toArray, List.set_cons_zero, List.set_cons_succ, i64_w, i32_w]
    rfl
  refine pure_ (i := 2) (N := some 20) (v := ?_) (a' := ?_) #[true, true, true, false, false, false, false, false, false, false, false, false, false, false, false, false, false] rfl rfl (by kernel_rfl) (fun _ _ _ h => h) (Or.inl ⟨by rfl, ?_⟩) ?_ ?_
  rotate_left
  · intro w'
    go_simp
    with_reducible rfl
  rotate_left
  · simp only [Act.put, List.setIfInBounds_toArray, List.set_cons_zero, List.set_cons_succ, i64_w, i32_w]
    rfl
  refine pure_ (i := 3) (N := some 21) (v := ?_) (a' := ?_) #[true, true, true, true, false, false, false, false, false, false, false, false, false, false, false, false, false] rfl rfl (by kernel_rfl) (fun _ _ _ h => h) (Or.inl ⟨by rfl, ?_⟩) ?_ ?_
  rotate_left
  · intro w'
    go_simp
    with_reducible rfl
  rotate_left
  · simp only [Act.put, List.setIfInBounds_toArray, List.set_cons_zero, List.set_cons_succ, i64_w, i32_w]
    rfl
  refine take_ (i := 4) (N := some 22) (v := ?_) (a' := ?_) #[true, true, true, true, true, false, false, false, false, false, false, false, false, false, false, false, false] rfl rfl (by kernel_rfl) (fun _ _ _ h => h) (Or.inl ⟨by rfl, ?_⟩) hHeld ?_ ?_
  rotate_left
  · rintro w' ⟨s0, s1, s2⟩
    go_simp
    with_reducible rfl
  rotate_left
  · simp only [Act.put, List.setIfInBounds_toArray, List.set_cons_zero, List.set_cons_succ, i64_w, i32_w]
    rfl
  refine take_ (i := 5) (N := some 23) (v := ?_) (a' := ?_) #[true, true, true, true, true, true, false, false, false, false, false, false, false, false, false, false, false] rfl rfl (by kernel_rfl) (fun _ _ _ h => h) (Or.inl ⟨by rfl, ?_⟩) hHeld ?_ ?_
  rotate_left
  · rintro w' ⟨s0, s1, s2⟩
    go_simp
    with_reducible rfl
  rotate_left
  · simp only [Act.put, List.setIfInBounds_toArray, List.set_cons_zero, List.set_cons_succ, i64_w, i32_w]
    rfl
  refine pure_ (i := 6) (N := some 24) (v := ?_) (a' := ?_) #[true, true, true, true, true, true, true, false, false, false, false, false, false, false, false, false, false] rfl rfl (by kernel_rfl) (fun _ _ _ h => h) (Or.inl ⟨by rfl, ?_⟩) ?_ ?_
  rotate_left
  · intro w'
    go_simp
    with_reducible rfl
  rotate_left
  · simp only [Act.put, List.setIfInBounds_toArray, List.set_cons_zero, List.set_cons_succ, i64_w, i32_w]
    rfl
  refine pure_ (i := 7) (N := some 25) (v := ?_) (a' := ?_) #[true, true, true, true, true, true, true, true, false, false, false, false, false, false, false, false, false] rfl rfl (by kernel_rfl) (fun _ _ _ h => h) (Or.inl ⟨by rfl, ?_⟩) ?_ ?_
  rotate_left
  · intro w'
    go_simp
    with_reducible rfl
  rotate_left
  · simp only [Act.put, List.setIfInBounds_toArray, List.set_cons_zero, List.set_cons_succ, i64_w, i32_w]
    rfl
  refine take_ (i := 8) (N := some 26) (v := ?_) (a' := ?_) #[true, true, true, true, true, true, true, true, true, false, false, false, false, false, false, false, false] rfl rfl (by kernel_rfl) (fun _ _ _ h => h) (Or.inl ⟨by rfl, ?_⟩) hHeld ?_ ?_
  rotate_left
  · rintro w' ⟨s0, s1, s2⟩
    go_simp
    with_reducible rfl
  rotate_left
  · simp only [Act.put, List.setIfInBounds_toArray, List.set_cons_zero, List.set_cons_succ, i64_w, i32_w]
    rfl
  refine take_ (i := 9) (N := some 27) (v := ?_) (a' := ?_) #[true, true, true, true, true, true, true, true, true, true, false, false, false, false, false, false, false] rfl rfl (by kernel_rfl) (fun _ _ _ h => h) (Or.inl ⟨by rfl, ?_⟩) hHeld ?_ ?_
  rotate_left
  · rintro w' ⟨s0, s1, s2⟩
    go_simp
    with_reducible rfl
  rotate_left
  · simp only [Act.put, List.setIfInBounds_toArray, List.set_cons_zero, List.set_cons_succ, i64_w, i32_w]
    rfl
  refine one_ (i := 10) (N := some 28) #[true, true, true, true, true, true, true, true, true, true, true, false, false, false, false, false, false] rfl rfl (by kernel_rfl) (by decide) (fun K hK => ?_)
  refine goes_ Try.func18 (by kernel_rfl) rfl #[.pointer (some ⟨gl, 0, none⟩)] (by rfl) rfl rfl (by simp only [List.map_toArray, List.map_cons, List.map_nil]; rfl) ?_
  with_reducible refine (HRM.out _ HL.out).mono ?_
  rintro e w6 ⟨rfl, rfl⟩
  refine ⟨_, rfl, ?_⟩
  refine hK.out _ _ ⟨a0, c1, c4⟩ (fun hHeld => ?_)
  clear hK K
  refine norm_ (a' := ?_) ?_ ?_
  rotate_left
  · show Act.put _ (some 28) _ = _
    simp only [Act.put, List.setIfInBounds_toArray, List.set_cons_zero, List.set_cons_succ, i64_w, i32_w]
    rfl
  refine one_ (i := 11) (N := some 29) #[true, true, true, true, true, true, true, true, true, true, true, true, false, false, false, false, false] rfl rfl (by kernel_rfl) (by decide) (fun K hK => ?_)
  refine goes_ Try.func48 (by kernel_rfl) rfl #[.slice A recs.length c, .int .i64 lep, .int .i64 lnx, .int .i64 (127 - lnx)] (by rfl) rfl rfl (by simp only [List.map_toArray, List.map_cons, List.map_nil]; rfl) ?_
  with_reducible refine (HCH.out _ HBx.out).mono ?_
  rintro e w3 ⟨v0, rfl, hr3, hb3⟩
  refine ⟨_, rfl, ?_⟩
  obtain ⟨Ac, cc, e0⟩ := Kd.R_slice hr3
  subst e0
  have HCK := Aside0.mk hr3
  have HL := Aside0.mk (HL.out.below hb3)
  have HD := Aside0.mk (HD.out.below hb3)
  have HBB := Aside0.mk (HBB.out.trans (Lg.B.of hb3 (Nat.le_trans hb HBB.out.size)))
  have HLA := Aside0.mk ((hb3.block _ (Array.getElem?_eq_some_iff.1 HLA.out).1).trans HLA.out)
  have HLB := Aside0.mk ((hb3.block _ (Array.getElem?_eq_some_iff.1 HLB.out).1).trans HLB.out)
  clear hr3 hb3
  refine hK.out _ _ ⟨(cell_of_row w3 _ 0 _ _ _ HLA.out), HL.out.c1, HL.out.c4⟩ (fun hHeld => ?_)
  clear hK K
  refine norm_ (a' := ?_) ?_ ?_
  rotate_left
  · show Act.put _ (some 29) _ = _
    simp only [Act.put, List.setIfInBounds_toArray, List.set_cons_zero, List.set_cons_succ, i64_w, i32_w]
    rfl
  refine pure_ (i := 12) (N := some 17) (v := ?_) (a' := ?_) #[true, true, true, true, true, true, true, true, true, true, true, true, true, false, false, false, false] rfl rfl (by kernel_rfl) (fun _ _ _ h => h) (Or.inl ⟨by rfl, ?_⟩) ?_ ?_
  rotate_left
  · intro w'
    go_simp
    with_reducible rfl
  rotate_left
  · simp only [Act.put, List.setIfInBounds_toArray, List.set_cons_zero, List.set_cons_succ, i64_w, i32_w]
    rfl
  refine pure_ (i := 13) (N := some 30) (v := ?_) (a' := ?_) #[true, true, true, true, true, true, true, true, true, true, true, true, true, true, false, false, false] rfl rfl (by kernel_rfl) (fun _ _ _ h => h) (Or.inl ⟨by rfl, ?_⟩) ?_ ?_
  rotate_left
  · intro w'
    go_simp
    with_reducible rfl
  rotate_left
  · simp only [Act.put, List.setIfInBounds_toArray, List.set_cons_zero, List.set_cons_succ, i64_w, i32_w]
    rfl
  refine pure_ (i := 14) (N := some 31) (v := ?_) (a' := ?_) #[true, true, true, true, true, true, true, true, true, true, true, true, true, true, true, false, false] rfl rfl (by kernel_rfl) (fun _ _ _ h => h) (Or.inl ⟨by rfl, ?_⟩) ?_ ?_
  rotate_left
  · intro w'
    go_simp
    with_reducible rfl
  rotate_left
  · simp only [Act.put, List.setIfInBounds_toArray, List.set_cons_zero, List.set_cons_succ, i64_w, i32_w]
    rfl
  refine pure_ (i := 15) (N := some 5) (v := ?_) (a' := ?_) #[true, true, true, true, true, true, true, true, true, true, true, true, true, true, true, true, false] rfl rfl (by kernel_rfl) (fun _ _ _ h => h) (Or.inl ⟨by rfl, ?_⟩) ?_ ?_
  rotate_left
  · intro w'
    go_simp
    with_reducible rfl
  rotate_left
  · simp only [Act.put, List.setIfInBounds_toArray, List.set_cons_zero, List.set_cons_succ, i64_w, i32_w]
    rfl
  refine pure_ (i := 16) (N := some 6) (v := ?_) (a' := ?_) #[true, true, true, true, true, true, true, true, true, true, true, true, true, true, true, true, true] rfl rfl (by kernel_rfl) (fun _ _ _ h => h) (Or.inl ⟨by rfl, ?_⟩) ?_ ?_
  rotate_left
  · intro w'
    go_simp
    with_reducible rfl
  rotate_left
  · simp only [Act.put, List.setIfInBounds_toArray, List.set_cons_zero, List.set_cons_succ, i64_w, i32_w]
    rfl
  refine done_ (by kernel_rfl) ?_
  dsimp only [log_Log_Append.NQ]
  clear hHeld a0 b0 fb c5 c1 c4 HRM HCH HBx HB
  have a0 : w3.cell? ⟨w.heap.size, 0, none⟩ = some (.pointer (some ⟨gl, 0, none⟩)) := cell_of_row w3 _ 0 _ _ _ HLA.out
  have b0 : w3.cell? ⟨w.heap.size + 1, 0, none⟩ = some (.int .i64 0) := cell_of_row w3 _ 0 _ _ _ HLB.out
  have fb : w3.frozen? ⟨w.heap.size + 1, 0, none⟩ = false := by simp only [World.frozen?]; rw [HLB.out]; rfl
  have hb3 : base ≤ w3.heap.size := Nat.le_trans hb HBB.out.size
  cases fits
  case false =>
    go_wp2_with (fail)
    have e0 : (w3.setCell ⟨w.heap.size + 1, 0, none⟩ (.int .i64 50)).cell? ⟨w.heap.size + 1, 0, none⟩ = some (.int .i64 50) := cell_of_row _ _ 0 _ _ _ (blk_set HLB.out 0 _)
    have e1 : (w3.setCell ⟨w.heap.size + 1, 0, none⟩ (.int .i64 50)).frozen? ⟨w.heap.size + 1, 0, none⟩ = false := by simp only [World.frozen?]; rw [blk_set HLB.out 0 _]; rfl
    refine ⟨.int .i64 50, by simp [results, Try.results20, go_sem, e0, e1, b0, fb], ?_⟩
    rw [← HRR.out]
    unfold log_Log_Append.r
    rw [if_neg (by simp), if_pos rfl]
    exact ⟨rfl, HWK.out (Tw.D.set HD.out HLB.out (by decide) (by decide) _), log_Log_Append.keep HL.out hnb, log_Log_Append.bset HBB.out (Nat.le_succ _) hb⟩
  go_upto_region 7 with fail
  have c3 := HL.out.c3
  dsimp only at c3
  have HL := Aside0.mk HL.out.drew
  have HD := Aside0.mk HD.out.drew
  have HBB := Aside0.mk HBB.out.drew
  have HCK := Aside0.mk (Kd.R_drew HCK.out)
  have HWR := Aside0.mk (HWR.out w3.drew _ Ac cc HL.out HD.out HCK.out hb3)
  have HRR2 : Aside0 ((if (Lg.puts lhf s (cks.map log_Log_write.toK)).2 = 0 then ((Lg.puts lhf s (cks.map log_Log_write.toK)).1, ({ epoch := lep, base := lba, half := lhf, next := lnx + cks.length, err := 0 } : Lg.L), 0) else ((Lg.puts lhf s (cks.map log_Log_write.toK)).1, ({ epoch := lep, base := lba, half := lhf, next := lnx, err := (Lg.puts lhf s (cks.map log_Log_write.toK)).2 } : Lg.L), (Lg.puts lhf s (cks.map log_Log_write.toK)).2)) = R) := ⟨by
    have e := HRR.out
    unfold log_Log_Append.r at e
    rw [if_neg (by simp), if_neg (by decide)] at e
    exact e⟩
  obtain ⟨⟨s2, x⟩, hps⟩ : ∃ p, Lg.puts lhf s (cks.map log_Log_write.toK) = p := ⟨_, rfl⟩
  simp only [hps] at HWR HRR2
  clear hps HRR HCK
  refine log_Log_Append.wp_normal ?_
  refine start_ (n := 8) (S := fun w' => w'.cell? ⟨w.heap.size, 0, none⟩ = some (.pointer (some ⟨gl, 0, none⟩)) ∧ w'.cell? ⟨gl, 3, none⟩ = some (.int .i64 lhf)) (ds := []) #[false, false, false, false, false, false, false, false] (by kernel_rfl) rfl rfl ⟨a0, c3⟩ (fun hHeld => ?_)
  refine pure_ (i := 5) (N := some 40) (v := ?_) (a' := ?_) #[false, false, false, false, false, true, false, false] rfl rfl (by kernel_rfl) (fun _ _ _ h => h) (Or.inl ⟨by rfl, ?_⟩) ?_ ?_
  rotate_left
  · intro w'
    go_simp
    with_reducible rfl
  rotate_left
  · simp only [Act.put, List.setIfInBounds_toArray, List.set_cons_zero, List.set_cons_succ, i64_w, i32_w]
    rfl
  refine take_ (i := 0) (N := some 35) (v := ?_) (a' := ?_) #[true, false, false, false, false, true, false, false] rfl rfl (by kernel_rfl) (fun _ _ _ h => h) (Or.inl ⟨by rfl, ?_⟩) hHeld ?_ ?_
  rotate_left
  · rintro w' ⟨s0, s1⟩
    go_simp
    with_reducible rfl
  rotate_left
  · simp only [Act.put, List.setIfInBounds_toArray, List.set_cons_zero, List.set_cons_succ, i64_w, i32_w]
    rfl
  refine take_ (i := 1) (N := some 36) (v := ?_) (a' := ?_) #[true, true, false, false, false, true, false, false] rfl rfl (by kernel_rfl) (fun _ _ _ h => h) (Or.inl ⟨by rfl, ?_⟩) hHeld ?_ ?_
  rotate_left
  · rintro w' ⟨s0, s1⟩
    go_simp
    with_reducible rfl
  rotate_left
  · simp only [Act.put, List.setIfInBounds_toArray, List.set_cons_zero, List.set_cons_succ, i64_w, i32_w]
    rfl
  refine pure_ (i := 2) (N := some 37) (v := ?_) (a' := ?_) #[true, true, true, false, false, true, false, false] rfl rfl (by kernel_rfl) (fun _ _ _ h => h) (Or.inl ⟨by rfl, ?_⟩) ?_ ?_
  rotate_left
  · intro w'
    go_simp
    with_reducible rfl
  rotate_left
  · simp only [Act.put, List.setIfInBounds_toArray, List.set_cons_zero, List.set_cons_succ, i64_w, i32_w]
    rfl
  refine pure_ (i := 3) (N := some 38) (v := ?_) (a' := ?_) #[true, true, true, true, false, true, false, false] rfl rfl (by kernel_rfl) (fun _ _ _ h => h) (Or.inl ⟨by rfl, ?_⟩) ?_ ?_
  rotate_left
  · intro w'
    go_simp
    with_reducible rfl
  rotate_left
  · simp only [Act.put, List.setIfInBounds_toArray, List.set_cons_zero, List.set_cons_succ, i64_w, i32_w]
    rfl
  refine take_ (i := 4) (N := some 39) (v := ?_) (a' := ?_) #[true, true, true, true, true, true, false, false] rfl rfl (by kernel_rfl) (fun _ _ _ h => h) (Or.inl ⟨by rfl, ?_⟩) hHeld ?_ ?_
  rotate_left
  · rintro w' ⟨s0, s1⟩
    go_simp
    with_reducible rfl
  rotate_left
  · simp only [Act.put, List.setIfInBounds_toArray, List.set_cons_zero, List.set_cons_succ, i64_w, i32_w]
    rfl
  refine one_ (i := 6) (N := some 41) #[true, true, true, true, true, true, true, false] rfl rfl (by kernel_rfl) (by decide) (fun K hK => ?_)
  refine goes_ Try.func50 (by kernel_rfl) rfl #[.pointer (some ⟨gl, 0, none⟩), .int .i64 lhf, .slice Ac cks.length cc] (by rfl) rfl rfl (by simp only [List.map_toArray, List.map_cons, List.map_nil]; rfl) ?_
  with_reducible refine (HWR.out).mono ?_
  rintro e w5 ⟨rfl, hd5, hl5, hb5⟩
  refine ⟨_, rfl, ?_⟩
  have HL := Aside0.mk hl5
  have HD := Aside0.mk hd5
  have HBB := Aside0.mk (HBB.out.trans (Lg.B.dk hb5))
  have HLA := Aside0.mk ((hb5.f _ _ _ HLA.out (by decide) (by decide)).trans HLA.out)
  have HLB := Aside0.mk ((hb5.f _ _ _ HLB.out (by decide) (by decide)).trans HLB.out)
  clear hb5 hl5 hd5
  refine hK.out _ _ ⟨(cell_of_row w5 _ 0 _ _ _ HLA.out), HL.out.c3⟩ (fun hHeld => ?_)
  clear hK K
  refine norm_ (a' := ?_) ?_ ?_
  rotate_left
  · show Act.put _ (some 41) _ = _
    simp only [Act.put, List.setIfInBounds_toArray, List.set_cons_zero, List.set_cons_succ, i64_w, i32_w]
    rfl
  refine pure_ (i := 7) (N := some 7) (v := ?_) (a' := ?_) #[true, true, true, true, true, true, true, true] rfl rfl (by kernel_rfl) (fun _ _ _ h => h) (Or.inl ⟨by rfl, ?_⟩) ?_ ?_
  rotate_left
  · intro w'
    go_simp
    with_reducible rfl
  rotate_left
  · simp only [Act.put, List.setIfInBounds_toArray, List.set_cons_zero, List.set_cons_succ, i64_w, i32_w]
    rfl
  refine done_ (by kernel_rfl) ?_
  dsimp only [log_Log_Append.NQ]
  clear hHeld a0 b0 fb c3 HWR
  have a0 : w5.cell? ⟨w.heap.size, 0, none⟩ = some (.pointer (some ⟨gl, 0, none⟩)) := cell_of_row w5 _ 0 _ _ _ HLA.out
  have b0 : w5.cell? ⟨w.heap.size + 1, 0, none⟩ = some (.int .i64 0) := cell_of_row w5 _ 0 _ _ _ HLB.out
  have fb : w5.frozen? ⟨w.heap.size + 1, 0, none⟩ = false := by simp only [World.frozen?]; rw [HLB.out]; rfl
  have c4 := HL.out.c4
  have f4 := HL.out.fz 4
  dsimp only at c4
  by_cases hx : x = 0
  case neg =>
    have d1 : (x != 0) = true := bne_iff_ne.2 hx
    go_wp2_with (fail)
    obtain ⟨W6, hW6⟩ : ∃ W6, w5.setCell ⟨w.heap.size + 1, 0, none⟩ (.int .i64 x) = W6 := ⟨_, rfl⟩
    have HL6 : Lg.At W6 base gl g ⟨lep, lba, lhf, lnx, 0⟩ := by rw [← hW6]; exact log_Log_Append.keep HL.out hnb
    have HLA6 : W6.heap[w.heap.size]? = some (.cells #[.pointer (some ⟨gl, 0, none⟩)] 34 (0, 0)) := by rw [← hW6]; exact log_Log_Append.blkset HLA.out (by omega)
    have HLB6 : W6.heap[w.heap.size + 1]? = some (.cells #[.int .i64 x] 32 (0, 0)) := by rw [← hW6]; exact blk_set HLB.out 0 _
    have HD6 : Tw.D W6 base g (n + cks.length) s2 := by rw [← hW6]; exact Tw.D.set HD.out HLB.out (by decide) (by decide) _
    have HB6 : Lg.B base w W6 := by rw [← hW6]; exact log_Log_Append.bset HBB.out (Nat.le_succ _) hb
    rw [hW6]
    refine leaves_cons (f := 49) (args := #[.pointer (some ⟨w.heap.size + 1, 0, none⟩), .pointer (some ⟨w.heap.size, 0, none⟩)]) (by simp) (by simp [go_sem]) ?_
    refine (log_Log_Append.dcall w.heap.size (w.heap.size + 1) gl x 0 .returning W6 (cell_of_row W6 _ 0 _ _ _ HLB6) (cell_of_row W6 _ 0 _ _ _ HLA6) HL6.c5 (HL6.fz 5)).mono ?_
    rintro e5 u' w7 ⟨rfl, rfl, rfl⟩
    have e0 : (W6.setCell ⟨gl, 5, none⟩ (.int .i64 x)).cell? ⟨w.heap.size + 1, 0, none⟩ = some (.int .i64 x) := cell_of_row _ _ 0 _ _ _ (log_Log_Append.blkset HLB6 (by omega))
    have e1 : (W6.setCell ⟨gl, 5, none⟩ (.int .i64 x)).frozen? ⟨w.heap.size + 1, 0, none⟩ = false := by simp only [World.frozen?]; rw [log_Log_Append.blkset HLB6 (by omega)]; rfl
    refine ⟨.int .i64 x, by simp only [results, Try.results20]; simp [go_sem, e0, e1], ?_⟩
    rw [← HRR2.out, if_neg hx]
    exact ⟨rfl, HL6.disk (Lg.set_keep W6 base gl 5 _ HL6.hg).k HD6, HL6.set5 x, HB6.keepK HL6.ob (Lg.set_keep W6 base gl 5 _ HL6.hg)⟩
  subst hx
  have hln : wrap64 (lnx + (cks.length : Int)) = lnx + (cks.length : Int) := Hw.w64 _ (by omega) (by omega)
  go_wp2_with (fail)
  obtain ⟨W5, hW5⟩ : ∃ W5, w5.setCell ⟨gl, 4, none⟩ (.int .i64 (lnx + (cks.length : Int))) = W5 := ⟨_, rfl⟩
  have HK5 := Lg.set_keep w5 base gl 4 (.int .i64 (lnx + (cks.length : Int))) HL.out.hg
  have HL5 : Lg.At W5 base gl g ⟨lep, lba, lhf, lnx + (cks.length : Int), 0⟩ := by rw [← hW5]; exact HL.out.set4 _
  have HLA5 : W5.heap[w.heap.size]? = some (.cells #[.pointer (some ⟨gl, 0, none⟩)] 34 (0, 0)) := by rw [← hW5]; exact log_Log_Append.blkset HLA.out (by omega)
  have HLB5 : W5.heap[w.heap.size + 1]? = some (.cells #[.int .i64 0] 32 (0, 0)) := by rw [← hW5]; exact log_Log_Append.blkset HLB.out (by omega)
  have HD5 : Tw.D W5 base g (n + cks.length) s2 := by rw [← hW5]; exact HL.out.disk HK5.k HD.out
  have HB5 : Lg.B base w W5 := by rw [← hW5]; exact HBB.out.keepK HL.out.ob HK5
  rw [hW5]
  clear hW5 HK5
  obtain ⟨W6, hW6⟩ : ∃ W6, W5.setCell ⟨w.heap.size + 1, 0, none⟩ (.int .i64 0) = W6 := ⟨_, rfl⟩
  have HL6 : Lg.At W6 base gl g ⟨lep, lba, lhf, lnx + (cks.length : Int), 0⟩ := by rw [← hW6]; exact log_Log_Append.keep HL5 hnb
  have HLA6 : W6.heap[w.heap.size]? = some (.cells #[.pointer (some ⟨gl, 0, none⟩)] 34 (0, 0)) := by rw [← hW6]; exact log_Log_Append.blkset HLA5 (by omega)
  have HLB6 : W6.heap[w.heap.size + 1]? = some (.cells #[.int .i64 0] 32 (0, 0)) := by rw [← hW6]; exact blk_set HLB5 0 _
  have HD6 : Tw.D W6 base g (n + cks.length) s2 := by rw [← hW6]; exact Tw.D.set HD5 HLB5 (by decide) (by decide) _
  have HB6 : Lg.B base w W6 := by rw [← hW6]; exact log_Log_Append.bset HB5 (Nat.le_succ _) hb
  rw [hW6]
  refine leaves_cons (f := 49) (args := #[.pointer (some ⟨w.heap.size + 1, 0, none⟩), .pointer (some ⟨w.heap.size, 0, none⟩)]) (by simp) (by simp [go_sem]) ?_
  refine (log_Log_Append.dcall w.heap.size (w.heap.size + 1) gl 0 0 .returning W6 (cell_of_row W6 _ 0 _ _ _ HLB6) (cell_of_row W6 _ 0 _ _ _ HLA6) HL6.c5 (HL6.fz 5)).mono ?_
  rintro e5 u' w7 ⟨rfl, rfl, rfl⟩
  have e0 : (W6.setCell ⟨gl, 5, none⟩ (.int .i64 0)).cell? ⟨w.heap.size + 1, 0, none⟩ = some (.int .i64 0) := cell_of_row _ _ 0 _ _ _ (log_Log_Append.blkset HLB6 (by omega))
  have e1 : (W6.setCell ⟨gl, 5, none⟩ (.int .i64 0)).frozen? ⟨w.heap.size + 1, 0, none⟩ = false := by simp only [World.frozen?]; rw [log_Log_Append.blkset HLB6 (by omega)]; rfl
  refine ⟨.int .i64 0, by simp only [results, Try.results20]; simp [go_sem, e0, e1], ?_⟩
  rw [← HRR2.out, if_pos (by first | trivial | rfl)]
  exact ⟨rfl, HL6.disk (Lg.set_keep W6 base gl 5 _ HL6.hg).k HD6, HL6.set5 0, HB6.keepK HL6.ob (Lg.set_keep W6 base gl 5 _ HL6.hg)⟩

/-! ### log_Log_Err: function 21 (by hand) -/
theorem log_Log_Err.calls (base gl g : Nat) (l : Lg.L) (w : World) (h : Lg.At w base gl g l) : Calls Try.prog 21 #[.pointer (some ⟨gl, 0, none⟩)] w fun e w' => e = .returned (.int .i64 l.err) ∧ w' = w := by
  have c5 := h.c5
  clear h
  generalize l.err = n at c5 ⊢
  go_enter Try.func21, Try.ntmps21
  go_wp2
  go_ret
  exact ⟨by first | rfl | simp, rfl⟩

end Go.Proofs.Ytfdccgpbdcdgmaa.PLogRoom

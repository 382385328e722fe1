-- By a program of this session (wip/tools/mkprint.py), for this claim.
import Derived.Test.YtfdccgpbdcdgmaaPLogRoomx0
import Derived.Test.YtfdccgpbdcdgmaaPLogRoomx1
import Derived.Test.YtfdccgpbdcdgmaaPLogRoomx3
import Derived.Test.YtfdccgpbdcdgmaaPLogRoomx4
import Derived.Test.YtfdccgpbdcdgmaaPLogRoomx5
namespace Go.Proofs.Ytfdccgpbdcdgmaa.PLogRoom
open Go.RowKit Go.Proofs.YtfdccgpbdcdgmaaW.PrintWords Go.Proofs.YtfdccgpbdcdgmaaW.PrintLast Go.Proofs.YtfdccgpbdcdgmaaW.PrintMore
attribute [local go_sem] max2_int min2_int max_two min_two max_three min_three max_four min_four   -- for this text's walks alone
set_option linter.unusedVariables false
set_option linter.unusedSimpArgs false

/-! ### log_Log_scan: function 37 (by hand) -/
section
open Lg
theorem log_Log_scan.sstep_l0 (j : Nat) : ∀ (k x : Nat) (i : Int), j ≤ 8 → j < k → x < 2 ^ 32 → i = 8 - j → sum_Step.l0 k (x : Int) i = some ((git j x : Nat) : Int) := by
  induction j with
  | zero =>
    intro k x i _ hk _ hi
    obtain ⟨k, rfl⟩ : ∃ m, k = m + 1 := ⟨k - 1, by omega⟩
    simp only [sum_Step.l0]; rw [if_neg (by omega)]; rfl
  | succ j ih =>
    intro k x i hj hk hx hi
    obtain ⟨k, rfl⟩ : ∃ m, k = m + 1 := ⟨k - 1, by omega⟩
    simp only [sum_Step.l0]; rw [if_pos (by omega), wrap64_in _ (by omega) (by omega)]
    have e1 : Go.bits .and .u32 (x : Int) 1 = ((x % 2 : Nat) : Int) := by
      have := and_u32 x 1 hx (by omega)
      rw [Nat.and_one_is_mod] at this
      exact this
    have e2 : Go.bits .xor .u32 ((x : Int) / 2) (Go.bits .and .u32 ((-(Go.bits .and .u32 (x : Int) 1)) % 4294967296) 3988292384) = ((gg x : Nat) : Int) := by
      rw [e1]
      have e3 : Go.bits .and .u32 ((-((x % 2 : Nat) : Int)) % 4294967296) 3988292384 = (((if x % 2 = 1 then 3988292384 else 0 : Nat)) : Int) := by
        rcases Nat.mod_two_eq_zero_or_one x with h | h
        · rw [h]; decide
        · rw [h]; decide
      rw [e3]
      have e4 : ((x : Int) / 2) = ((x / 2 : Nat) : Int) := by omega
      rw [e4, xor_u32 _ _ (by omega) (by split <;> omega)]
      rfl
    rw [e2]
    exact ih k (gg x) (i + 1) (by omega) (by omega) (gg_lt x hx) (by omega)
theorem log_Log_scan.sstep_f (k a b : Nat) (hk : 8 < k) (ha : a < 2 ^ 32) (hb : b < 256) : sum_Step.f k (a : Int) (b : Int) = some ((stp a b : Nat) : Int) := by
  unfold sum_Step.f stp
  have e : ((b : Int) % 4294967296) = (b : Int) := by omega
  rw [e, xor_u32 a b ha (by omega)]
  exact log_Log_scan.sstep_l0 8 k _ 0 (by omega) hk (Nat.xor_lt_two_pow ha (by omega)) (by omega)
theorem log_Log_scan.scrc_l0 (s : ByteArray) (hs : s.size ≤ 9223372036854775807) (d : Nat) : ∀ (k : Nat) (i : Int) (c : Nat), 0 ≤ i → i + d = s.size → d + 9 < k → c < 2 ^ 32 → sum_Crc.l0 k s (c : Int) (s.size : Int) i = some ((4294967295 ^^^ cgo s d i c : Nat) : Int) := by
  induction d with
  | zero =>
    intro k i c h0 h1 hk hc
    obtain ⟨k, rfl⟩ : ∃ m, k = m + 1 := ⟨k - 1, by omega⟩
    simp only [sum_Crc.l0]; rw [if_neg (by omega)]
    exact congrArg some (xor_u32 4294967295 c (by omega) hc)
  | succ d ih =>
    intro k i c h0 h1 hk hc
    obtain ⟨k, rfl⟩ : ∃ m, k = m + 1 := ⟨k - 1, by omega⟩
    simp only [sum_Crc.l0]; rw [if_pos (by omega), if_pos h0, if_pos (by omega), wrap64_in _ (by omega) (by omega), ← bt_cast, log_Log_scan.sstep_f k c _ (by omega) hc (bt_lt s i)]
    simp only [Option.bind_some]
    exact ih k (i + 1) _ (by omega) (by omega) (by omega) (stp_lt _ _ hc (bt_lt s i))
theorem log_Log_scan.scrc_f (s : ByteArray) (k : Nat) (hs : s.size ≤ 9223372036854775807) (hk : s.size + 9 < k) : sum_Crc.f k s = some ((crcd s : Nat) : Int) :=
  log_Log_scan.scrc_l0 s hs s.size k 0 4294967295 (by omega) (by omega) hk (by omega)
theorem log_Log_scan.ptail_ev (s : ByteArray) (hs : s.size ≤ 140737488355328) : Lg.Ev (fun k => chunk_tail.f k s) ⟨(tl s).toArray⟩ := by
  refine ⟨s.size + 10, fun k hk => ?_⟩
  show (sum_Crc.f k s).bind _ = _
  rw [log_Log_scan.scrc_f s k (by omega) (by omega)]
  show some _ = _
  have h := crcd_lt s
  unfold tl
  generalize crcd s = c at *
  rw [← str_nums, nums_le4]
  have e1 : ((c : Int)) % 256 = ((c % 256 : Nat) : Int) := by omega
  have e2 : ((c : Int) / 256) % 256 = ((c / 256 % 256 : Nat) : Int) := by omega
  have e3 : ((c : Int) / 65536) % 256 = ((c / 65536 % 256 : Nat) : Int) := by omega
  have e4 : ((c : Int) / 16777216) % 256 = ((c / 16777216 % 256 : Nat) : Int) := by omega
  rw [e1, e2, e3, e4]
theorem log_Log_scan.dec_eq (l : List UInt8) : chunk_Decode.dec l = Lg.dec l := rfl
theorem log_Log_scan.bad_eq : chunk_Decode.bad = Lg.bad := rfl
theorem log_Log_scan.pdec_ev (s : ByteArray) (hs : s.size ≤ 1000000) : Lg.Ev (fun k => chunk_Decode.f k s) (cdec s) := by
  unfold chunk_Decode.f cdec
  simp only [log_Log_scan.dec_eq, log_Log_scan.bad_eq]
  by_cases h : s.size < 4
  · rw [if_pos h]
    exact (Lg.Ev.const _).of fun k => by rw [if_pos (by omega), if_pos (by omega)]
  · rw [if_neg h]
    have hl := data_length s
    have ht := log_Log_scan.ptail_ev ⟨(s.data.toList.take (s.size - 4)).toArray⟩ (by rw [bs_size, List.length_take]; omega)
    rw [← ext_take] at ht
    have hb := Lg.Ev.bind (f := fun _ t => if t.toList = (s.extract (s.size - 4) s.size).toList then some (dec (s.data.toList.take (s.size - 4))) else some bad) (v := if tl ⟨(s.data.toList.take (s.size - 4)).toArray⟩ = s.data.toList.drop (s.size - 4) then dec (s.data.toList.take (s.size - 4)) else bad) ht ((Lg.Ev.const _).of fun k => by
      rw [bs_list, ext_drop, bs_list, ext_take]
      split <;> rfl)
    exact hb.of fun k => by rw [if_pos (by omega), if_neg (by omega)]
theorem log_Log_scan.dec_calls (s : ByteArray) (hs : s.size ≤ 1000000) (w : World) : Calls Try.prog 57 #[.string s] w fun e' w' => e' = .returned (.tuple #[.agg #[.int .i64 (cdec s).1, .int .i64 (cdec s).2.1, .bool (cdec s).2.2.1, .bool (cdec s).2.2.2.1, .string (cdec s).2.2.2.2.1], .int .i64 (cdec s).2.2.2.2.2]) ∧ Below w.heap.size w w' := by
  obtain ⟨k, hk⟩ := (log_Log_scan.pdec_ev s hs).get
  exact chunk_Decode.calls k s _ _ _ _ _ _ w hk
end
def log_Log_scan.NQ (Q : Exit → Act → World → Prop) (e : Exit) (a : Act) (w : World) : Prop := match e with
  | .normal => Q .normal a w
  | _ => False
theorem log_Log_scan.wp_normal {P : Program} {c : Code} {Q : Exit → Act → World → Prop} {a : Act} {w : World} (h : c.wp P (log_Log_scan.NQ Q) a w) : c.wp P Q a w := wp_mono h (fun e a w q => by
  cases e <;> first | exact q | exact q.elim)
theorem log_Log_scan.okT : strings_Builder_copyCheck.Ok 95 := ⟨by kernel_rfl, by decide⟩
theorem log_Log_scan.reads (s : Dk.S) (base g n : Nat) (i : Int) (w : World) (h : Tw.D w base g n s) : Calls Try.prog 44 #[.pointer (some ⟨g, 0, none⟩), .int .i64 i] w fun e w' => e = .returned (.tuple #[.string (Dk.read s i).1, .int .i64 (Dk.read s i).2]) ∧ w' = w := by
  obtain ⟨mb, n', ov, hn', h⟩ := h
  exact disk_Disk_Read.calls s base g mb n' ov i w h
theorem log_Log_scan.read_on (s : Dk.S) (i : Nat) (h : s.off = false) (hi : i < 256) : Dk.read s (i : Int) = (s.sec.getD i ⟨#[]⟩, 0) := by
  unfold Dk.read
  rw [if_neg (by rw [h]; decide), if_neg (by omega), Int.toNat_natCast]
/-- Blocks of other types than t0 are as they were. -/
def log_Log_scan.Only (t0 : TypeId) (w w' : World) : Prop := w.heap.size ≤ w'.heap.size ∧ ∀ (k : Nat) (o : Obj), w.heap[k]? = some o → (∀ cs fz, o ≠ .cells cs t0 fz) → w'.heap[k]? = some o
theorem log_Log_scan.Only.set {t0 : TypeId} {w : World} {b k : Nat} {cs : Array Value} {fz : Nat × Nat} (hb : w.heap[b]? = some (.cells cs t0 fz)) (v : Value) : log_Log_scan.Only t0 w (w.setCell ⟨b, k, none⟩ v) := ⟨by simp [World.setCell], fun j o e h1 => (Below.heap_setCell w ⟨b, k, none⟩ v j (fun q => by
  have q : j = b := q
  subst q
  rw [hb] at e
  exact h1 _ _ (Option.some.inj e).symm)).trans e⟩
theorem log_Log_scan.Only.trans {t0 : TypeId} {a w w' : World} (h : log_Log_scan.Only t0 a w) (h' : log_Log_scan.Only t0 w w') : log_Log_scan.Only t0 a w' := ⟨Nat.le_trans h.1 h'.1, fun k o e h1 => h'.2 k o (h.2 k o e h1) h1⟩
theorem log_Log_scan.Only.grown {w w' : World} {base : Nat} {v : Value} {xs : List ByteArray} {ok : Nat → Prop} (hR : Kd.R Kd.string 9 w base ok v xs) (hg : w.grownBy w' v.ownBlock) : log_Log_scan.Only 9 w w' := ⟨hg.size, fun j o e h1 => (hg.block j (Array.getElem?_eq_some_iff.1 e).1 (fun q => by
  obtain ⟨inner, ho⟩ := Kd.R_own hR
  obtain ⟨cells, hc⟩ := own_typed ho j q.symm
  rw [hc] at e
  exact h1 _ _ (Option.some.inj e).symm)).trans e⟩
theorem log_Log_scan.wr_stays {B b : Nat} {bs : List Value} {w w' : World} (h : strings_Builder_copyCheck.Wr 95 B b bs w) (hf : ∀ (k : Nat) (cs : Array Value) (t : TypeId) (fz : Nat × Nat), w.heap[k]? = some (.cells cs t fz) → t = 95 ∨ t = 5 → w'.heap[k]? = some (.cells cs t fz)) : strings_Builder_copyCheck.Wr 95 B b bs w' := by
  have hat : ∀ p, Lib.BuilderAtF 95 5 B b p bs w → Lib.BuilderAtF 95 5 B b p bs w' := by
    rintro p ⟨hB, v, hbk, hown, hne⟩
    refine ⟨hB, v, hf _ _ _ _ hbk (.inl rfl), ⟨hown.1, ?_⟩, hne⟩
    rcases hown.2 with q | ⟨g, cap, cur, fz, q1, q2, q3, q4⟩
    · exact .inl q
    · exact .inr ⟨g, cap, cur, fz, q1, q2, hf _ _ _ _ q3 (.inr rfl), q4⟩
  refine ⟨h.1.imp (hat _) (hat _), fun e => ?_⟩
  have h2 := h.2 e
  rcases h.1 with ⟨_, v, hbk, _⟩ | ⟨_, v, hbk, _⟩
  · have c1 : w.cell? ⟨b, 1, none⟩ = some v := by rw [Lib.cell_of_heap hbk]; rfl
    have e1 := c1.symm.trans h2
    cases e1
    exact cell_of_row _ b 1 _ _ _ (hf _ _ _ _ hbk (.inl rfl))
  · have c1 : w.cell? ⟨b, 1, none⟩ = some v := by rw [Lib.cell_of_heap hbk]; rfl
    have e1 := c1.symm.trans h2
    cases e1
    exact cell_of_row _ b 1 _ _ _ (hf _ _ _ _ hbk (.inl rfl))
/-- Ahead of a round. -/
structure log_Log_scan.I (w wq : World) (base gl g b0 b1 : Nat) (l : Lg.L) (nx : Int) (recs : List ByteArray) (rv : Value) (now : List UInt8) (le lsq : Int) (lf ll : Bool) (ld : ByteArray) : Prop where
  at_ : Lg.At wq base gl g { l with next := nx }
  k : Lg.K base gl w wq
  wr : strings_Builder_copyCheck.Wr 95 w.heap.size b0 (Lib.byteCells now) wq
  la : wq.heap[b1]? = some (.cells #[.int .i64 le, .int .i64 lsq, .bool lf, .bool ll, .string ld] 25 (0, 0))
  rr : Kd.R Kd.string 9 wq w.heap.size (fun _ => True) rv recs
  h0 : w.heap.size ≤ b0
  h1 : w.heap.size ≤ b1
  hb : base ≤ w.heap.size
  hg : gl < w.heap.size
section
variable {w wq w' : World} {base gl g b0 b1 : Nat} {l : Lg.L} {nx : Int} {recs : List ByteArray} {rv : Value} {now : List UInt8} {le lsq : Int} {lf ll : Bool} {ld : ByteArray}
theorem log_Log_scan.kB (h : Lg.K base gl w wq) (hb : base ≤ w.heap.size) (hB : Below w.heap.size wq w') : Lg.K base gl w w' := ⟨h.b.trans (hB.mono hb), ⟨Nat.le_trans h.size hB.size, fun i hi hne hr => (hB.block i hi).trans (h.k.2 i hi hne hr)⟩⟩
theorem log_Log_scan.I.below (h : log_Log_scan.I w wq base gl g b0 b1 l nx recs rv now le lsq lf ll ld) (hB : Below wq.heap.size wq w') : log_Log_scan.I w w' base gl g b0 b1 l nx recs rv now le lsq lf ll ld :=
  ⟨h.at_.below hB, log_Log_scan.kB h.k h.hb (hB.mono h.k.size), h.wr.below hB, (hB.block b1 (Array.getElem?_eq_some_iff.1 h.la).1).trans h.la, Kd.R_step h.rr (fun k _ hk => hB.block k hk), h.h0, h.h1, h.hb, h.hg⟩
theorem log_Log_scan.I.fr {now' : List UInt8} (h : log_Log_scan.I w wq base gl g b0 b1 l nx recs rv now le lsq lf ll ld) (hw : strings_Builder_copyCheck.Wr 95 w.heap.size b0 (Lib.byteCells now') w') (hB : Below w.heap.size wq w') (hf : strings_Builder_copyCheck.Fr 95 wq w') : log_Log_scan.I w w' base gl g b0 b1 l nx recs rv now' le lsq lf ll ld :=
  ⟨⟨hf.2 _ _ h.at_.ob (fun _ _ e => by injection e with _ e; exact absurd e (by decide)) (fun _ _ e => by injection e with _ e; exact absurd e (by decide)), h.at_.hg⟩, log_Log_scan.kB h.k h.hb hB, hw,
   hf.2 _ _ h.la (fun _ _ e => by injection e with _ e; exact absurd e (by decide)) (fun _ _ e => by injection e with _ e; exact absurd e (by decide)), Lg.fr_row h.rr (by decide) hf.2, h.h0, h.h1, h.hb, h.hg⟩
theorem log_Log_scan.I.chunk {le' lsq' : Int} {lf' ll' : Bool} {ld' : ByteArray} (h : log_Log_scan.I w wq base gl g b0 b1 l nx recs rv now le lsq lf ll ld) (hl : w'.heap[b1]? = some (.cells #[.int .i64 le', .int .i64 lsq', .bool lf', .bool ll', .string ld'] 25 (0, 0))) (hB : Below w.heap.size wq w') (hf : log_Log_scan.Only 25 wq w') : log_Log_scan.I w w' base gl g b0 b1 l nx recs rv now le' lsq' lf' ll' ld' :=
  ⟨⟨hf.2 _ _ h.at_.ob (fun _ _ e => by injection e with _ e; exact absurd e (by decide)), h.at_.hg⟩, log_Log_scan.kB h.k h.hb hB, log_Log_scan.wr_stays h.wr (fun k cs t fz e ht => hf.2 _ _ e (fun _ _ q => by injection q with _ q; subst q; rcases ht with ht | ht <;> exact absurd ht (by decide))), hl,
   Lg.fr_row h.rr (show 9 ≠ 25 by decide) (fun k o e p1 _ => hf.2 k o e p1), h.h0, h.h1, h.hb, h.hg⟩
theorem log_Log_scan.I.app {rv' : Value} {recs' : List ByteArray} (h : log_Log_scan.I w wq base gl g b0 b1 l nx recs rv now le lsq lf ll ld) (hr : Kd.R Kd.string 9 w' w.heap.size (fun _ => True) rv' recs') (hB : Below w.heap.size wq w') (hf : log_Log_scan.Only 9 wq w') : log_Log_scan.I w w' base gl g b0 b1 l nx recs' rv' now le lsq lf ll ld :=
  ⟨⟨hf.2 _ _ h.at_.ob (fun _ _ e => by injection e with _ e; exact absurd e (by decide)), h.at_.hg⟩, log_Log_scan.kB h.k h.hb hB, log_Log_scan.wr_stays h.wr (fun k cs t fz e ht => hf.2 _ _ e (fun _ _ q => by injection q with _ q; subst q; rcases ht with ht | ht <;> exact absurd ht (by decide))),
   hf.2 _ _ h.la (fun _ _ e => by injection e with _ e; exact absurd e (by decide)), hr, h.h0, h.h1, h.hb, h.hg⟩
theorem log_Log_scan.I.next (h : log_Log_scan.I w wq base gl g b0 b1 l nx recs rv now le lsq lf ll ld) (x : Int) : log_Log_scan.I w (wq.setCell ⟨gl, 4, none⟩ (.int .i64 x)) base gl g b0 b1 l x recs rv now le lsq lf ll ld := by
  have hf := log_Log_scan.Only.set (k := 4) h.at_.ob (.int .i64 x)
  exact ⟨h.at_.set4 x, h.k.trans (Lg.set_keep _ base gl 4 _ h.at_.hg), log_Log_scan.wr_stays h.wr (fun k cs t fz e ht => hf.2 _ _ e (fun _ _ q => by injection q with _ q; subst q; rcases ht with ht | ht <;> exact absurd ht (by decide))),
    hf.2 _ _ h.la (fun _ _ e => by injection e with _ e; exact absurd e (by decide)), Lg.fr_row h.rr (show 9 ≠ 74 by decide) (fun k o e p1 _ => hf.2 k o e p1), h.h0, h.h1, h.hb, h.hg⟩
theorem log_Log_scan.I.last5 (h : log_Log_scan.I w wq base gl g b0 b1 l nx recs rv now le lsq lf ll ld) (x y : Int) (f q : Bool) (d : ByteArray) : log_Log_scan.I w (((((wq.setCell ⟨b1, 0, none⟩ (.int .i64 x)).setCell ⟨b1, 1, none⟩ (.int .i64 y)).setCell ⟨b1, 2, none⟩ (.bool f)).setCell ⟨b1, 3, none⟩ (.bool q)).setCell ⟨b1, 4, none⟩ (.string d)) base gl g b0 b1 l nx recs rv now x y f q d := by
  have e0 := blk_set h.la 0 (.int .i64 x)
  have e1 := blk_set e0 1 (.int .i64 y)
  have e2 := blk_set e1 2 (.bool f)
  have e3 := blk_set e2 3 (.bool q)
  have e4 := blk_set e3 4 (.string d)
  exact h.chunk e4 ((((((Below.refl w.heap.size wq).setCell (p := ⟨b1, 0, none⟩) h.h1 _).setCell (p := ⟨b1, 1, none⟩) h.h1 _).setCell (p := ⟨b1, 2, none⟩) h.h1 _).setCell (p := ⟨b1, 3, none⟩) h.h1 _).setCell (p := ⟨b1, 4, none⟩) h.h1 _)
    (((((log_Log_scan.Only.set h.la _).trans (log_Log_scan.Only.set e0 _)).trans (log_Log_scan.Only.set e1 _)).trans (log_Log_scan.Only.set e2 _)).trans (log_Log_scan.Only.set e3 _))
end
theorem log_Log_scan.keep5 {W : World} {b cb : Nat} {v0 v1 v2 v3 v4 : Value} {o : Obj} (h : W.heap[cb]? = some o) (hne : cb ≠ b) : (((((W.setCell ⟨b, 0, none⟩ v0).setCell ⟨b, 1, none⟩ v1).setCell ⟨b, 2, none⟩ v2).setCell ⟨b, 3, none⟩ v3).setCell ⟨b, 4, none⟩ v4).heap[cb]? = some o :=
  (Below.heap_setCell _ _ _ cb hne).trans ((Below.heap_setCell _ _ _ cb hne).trans ((Below.heap_setCell _ _ _ cb hne).trans ((Below.heap_setCell _ _ _ cb hne).trans ((Below.heap_setCell _ _ _ cb hne).trans h))))
theorem log_Log_scan.row1 {α : Type} (Rr : α → List Value → Prop) {W : World} {b : Nat} {t : TypeId} {x : α} {v : Value} (h : W.heap[b]? = some (.cells #[v] t (0, 0))) (hr : Rr x [v]) : ReadsRow Rr 1 W (some ⟨b, 0, none⟩) 1 [x] := by
  refine ⟨rfl, by decide, fun _ => ⟨_, rfl, fun j p hj => ?_⟩⟩
  match j with
  | 0 =>
    cases hj
    refine ⟨[v], rfl, hr, fun i u hu => ?_⟩
    match i with
    | 0 => cases hu; exact cell_of_row W b 0 _ _ _ h
    | i + 1 => cases hu
  | j + 1 => cases hj
theorem log_Log_scan.scan_succ (epoch : Int) (cs : Nat → Lg.C) (d p : Nat) (recs : List ByteArray) (now : List UInt8) (le : Int) (ll : Bool) (nx : Int) : Lg.scan epoch cs (d + 1) p recs now le ll nx = if Lg.good epoch (cs p) p le ll = true then (if (cs p).2.2.2.1 = true then Lg.scan epoch cs d (p + 1) (recs ++ [⟨(now ++ (cs p).2.2.2.2.1.data.toList).toArray⟩]) [] (cs p).1 true ((p : Int) + 1) else Lg.scan epoch cs d (p + 1) recs (now ++ (cs p).2.2.2.2.1.data.toList) (cs p).1 false nx) else (recs, nx) := rfl
set_option maxHeartbeats 16000000 in
set_option maxRecDepth 100000 in
theorem log_Log_scan.calls (base gl g n : Nat) (l : Lg.L) (s : Dk.S) (w : World) (h : Lg.At w base gl g l) (hd : Tw.D w base g n s) (hin : Dk.In s) (hoff : s.off = false) (hb : base ≤ w.heap.size) (hh : l.half = 0 ∨ l.half = 1) :
    Calls Try.prog 37 #[.pointer (some ⟨gl, 0, none⟩)] w fun e w' => ∃ v, e = .returned (.tuple #[v, .int .i64 0]) ∧ Kd.R Kd.string 9 w' w.heap.size (fun _ => True) v (Lg.scanL s l).1 ∧ Lg.At w' base gl g { l with next := (Lg.scanL s l).2 } ∧ Lg.K base gl w w' := by
  obtain ⟨R, hR⟩ : ∃ R, Lg.scanL s l = R := ⟨_, rfl⟩
  have HR0 : Aside0 (Lg.scan l.epoch (Lg.hs s l.half) 127 0 [] [] l.base true l.next = R) := ⟨hR⟩
  rw [hR]
  clear hR
  obtain ⟨hf, hhf, hhf1⟩ : ∃ hf : Nat, l.half = (hf : Int) ∧ hf ≤ 1 := by
    rcases hh with q | q
    · exact ⟨0, q, by decide⟩
    · exact ⟨1, q, by decide⟩
  have HSEC : Aside0 (∀ (p : Nat) W, p < 127 → Calls Try.prog 58 #[.pointer (some ⟨gl, 0, none⟩), .int .i64 (hf : Int), .int .i64 (p : Int)] W fun e w' => e = .returned (.int .i64 (2 + (hf : Int) * 127 + (p : Int))) ∧ w' = W) := ⟨fun p W hp => log_Log_sector.calls _ (hf : Int) (p : Int) W (by omega) (by omega)⟩
  have HRD : Aside0 (∀ (p : Nat) W, p < 127 → Tw.D W base g n s → Calls Try.prog 44 #[.pointer (some ⟨g, 0, none⟩), .int .i64 (2 + (hf : Int) * 127 + (p : Int))] W fun e w' => e = .returned (.tuple #[.string (s.sec.getD (2 + hf * 127 + p) ⟨#[]⟩), .int .i64 0]) ∧ w' = W) := ⟨fun p W hp hD => by
    have e := log_Log_scan.reads s base g n ((2 + hf * 127 + p : Nat) : Int) W hD
    rw [log_Log_scan.read_on s _ hoff (by omega)] at e
    have q : ((2 + hf * 127 + p : Nat) : Int) = 2 + (hf : Int) * 127 + (p : Int) := by omega
    rw [q] at e
    exact e⟩
  have HDC : Aside0 (∀ (p : Nat) W, Calls Try.prog 57 #[.string (s.sec.getD (2 + hf * 127 + p) ⟨#[]⟩)] W fun e' w' => e' = .returned (.tuple #[.agg #[.int .i64 (Lg.hs s l.half p).1, .int .i64 (Lg.hs s l.half p).2.1, .bool (Lg.hs s l.half p).2.2.1, .bool (Lg.hs s l.half p).2.2.2.1, .string (Lg.hs s l.half p).2.2.2.2.1], .int .i64 (Lg.hs s l.half p).2.2.2.2.2]) ∧ Below W.heap.size W w') := ⟨fun p W => by
    have e := log_Log_scan.dec_calls (s.sec.getD (2 + hf * 127 + p) ⟨#[]⟩) (by have := Tw.getD_le s.sec hin.2.2.2.2.2.1 (2 + hf * 127 + p); omega) W
    have q : Lg.hs s l.half p = Lg.cdec (s.sec.getD (2 + hf * 127 + p) ⟨#[]⟩) := by unfold Lg.hs Lg.sc; rw [hhf, Int.toNat_natCast]
    rw [q]
    exact e⟩
  have HSZ : Aside0 (∀ p, (Lg.hs s l.half p).2.2.2.2.1.size ≤ 96) := ⟨fun p => Lg.cdec_size _⟩
  generalize Lg.hs s l.half = cs at HR0 HDC HSZ
  have HD0 := Aside0.mk hd
  have HL0 := Aside0.mk h
  have c2 := h.c2
  have hgl := h.lt
  clear hd hin hoff hh
  obtain ⟨lep, lba, lhf, lnx, ler⟩ := l
  dsimp only at hhf HR0 c2 HL0
  subst hhf
  go_enter Try.func37, Try.ntmps37
  go_upto_region 4 with fail
  obtain ⟨W2, hW2⟩ : ∃ W2, ((w.alloc (.cells #[.pointer none, .slice none 0 0] 95)).alloc (.cells #[.int .i64 lba, .int .i64 0, .bool false, .bool true, .string ⟨#[]⟩] 25)) = W2 := ⟨_, rfl⟩
  have HI : Aside0 (log_Log_scan.I w W2 base gl g w.heap.size (w.heap.size + 1) ⟨lep, lba, (hf : Int), lnx, ler⟩ lnx [] (.slice none 0 0) [] lba 0 false true ⟨#[]⟩) := ⟨by
    have hB1 : Below w.heap.size w (w.alloc (.cells #[.pointer none, .slice none 0 0] 95)) := (Below.refl w.heap.size w).alloc (Nat.le_refl _) _
    have hB2 : Below (w.alloc (.cells #[.pointer none, .slice none 0 0] 95)).heap.size (w.alloc (.cells #[.pointer none, .slice none 0 0] 95)) W2 := by rw [← hW2]; exact (Below.refl _ _).alloc (Nat.le_refl _) _
    have hB : Below w.heap.size w W2 := hB1.trans (hB2.mono hB1.size)
    exact ⟨HL0.out.below hB, Lg.K.of hB hb, (strings_Builder_copyCheck.fresh_wr 95 w).below hB2, by rw [← hW2]; exact Hw.blk_nw1 w _ _, Kd.R_nil _ _ _ _ _, Nat.le_refl _, Nat.le_succ _, hb, hgl⟩⟩
  rw [hW2]
  clear hW2 c2
  go_wp2_with (fail)
  go_loopg [4, 7, 8, 9, 10, 16] 127 (fun gg v4 v7 v8 v9 v10 v16 wq => ∃ (p : Nat) (recs : List ByteArray) (now : List UInt8) (le lsq : Int) (lf ll : Bool) (ld : ByteArray) (nx : Int), v16 = .int .i64 (p : Int) ∧ p ≤ 127 ∧ 127 - p ≤ gg ∧ recs.length ≤ p ∧ now.length ≤ 96 * p ∧ Aside0 (Lg.scan lep cs (127 - p) p recs now le ll nx = R) ∧ Aside0 (log_Log_scan.I w wq base gl g w.heap.size (w.heap.size + 1) ⟨lep, lba, (hf : Int), lnx, ler⟩ nx recs v4 now le lsq lf ll ld))
  case atStart => exact ⟨0, [], [], lba, 0, false, true, ⟨#[]⟩, lnx, rfl, by omega, by omega, Nat.le_refl _, Nat.le_refl _, HR0, HI⟩
  case round =>
    clear HI HR0
    obtain ⟨p, recs, now, le, lsq, lf, ll, ld, nx, rfl, hp, hgg, hrl, hnl, HR, HI⟩ := hrel
    by_cases hpl : p < 127
    case neg =>
      have hp127 : p = 127 := by omega
      subst hp127
      have HR2 : Aside0 ((recs, nx) = R) := ⟨HR.out⟩
      go_wp2_with (fail)
      go_ret2
      rw [← HR2.out]
      exact ⟨_, rfl, HI.out.rr, HI.out.at_, HI.out.k⟩
    obtain ⟨gk, rfl⟩ : ∃ q, gk = q + 1 := by
      cases gk with
      | zero => omega
      | succ q => exact ⟨q, rfl⟩
    obtain ⟨d, hd⟩ : ∃ d, 127 - p = d + 1 := ⟨126 - p, by omega⟩
    rw [hd, log_Log_scan.scan_succ] at HR
    have HD := Aside0.mk (HL0.out.disk HI.out.k.k HD0.out)
    have c0 := HI.out.at_.c0
    have c3 := HI.out.at_.c3
    have HSEC1 := Aside0.mk (fun W => HSEC.out p W hpl)
    have HRD2 := Aside0.mk (HRD.out p wr.drew hpl HD.out.drew)
    have HDC1 := Aside0.mk (HDC.out p)
    have hsz := HSZ.out p
    generalize s.sec.getD (2 + hf * 127 + p) ⟨#[]⟩ = tx at HRD2 HDC1
    generalize cs p = c at HR HDC1 hsz
    obtain ⟨ep, sq, fi, la, da, er⟩ := c
    dsimp only at HR HDC1 hsz c0 c3
    have hp127 : (p : Int) < 127 := by omega
    clear HD
    go_upto_region 7 with fail
    refine log_Log_scan.wp_normal ?_
    refine start_ (n := 17) (S := fun w' => w'.cell? ⟨gl, 0, none⟩ = some (.pointer (some ⟨g, 0, none⟩)) ∧ w'.cell? ⟨gl, 3, none⟩ = some (.int .i64 (hf : Int))) (ds := []) #[false, false, false, false, false, false, false, false, false, false, false, false, false, false, false, false, false] (by kernel_rfl) rfl rfl ⟨c0, c3⟩ (fun hHeld => ?_)
    refine pure_ (i := 0) (N := some 20) (v := ?_) (a' := ?_) #[true, false, false, false, false, false, false, false, false, false, false, false, false, false, false, false, false] rfl rfl (by kernel_rfl) (fun _ _ _ h => h) (Or.inl ⟨by rfl, ?_⟩) ?_ ?_
    rotate_left
    · intro w'
      go_simp
      with_reducible rfl
    rotate_left
    · simp only [Act.put, List.setIfInBounds_toArray, List.set_cons_zero, List.set_cons_succ, i64_w, i32_w]
      rfl
    refine pure_ (i := 1) (N := some 21) (v := ?_) (a' := ?_) #[true, true, false, false, false, false, false, false, false, false, false, false, false, false, false, false, false] rfl rfl (by kernel_rfl) (fun _ _ _ h => h) (Or.inl ⟨by rfl, ?_⟩) ?_ ?_
    rotate_left
    · intro w'
      go_simp
      with_reducible rfl
    rotate_left
    · simp only [Act.put, List.setIfInBounds_toArray, List.set_cons_zero, List.set_cons_succ, i64_w, i32_w]
      rfl
    refine pure_ (i := 2) (N := some 22) (v := ?_) (a' := ?_) #[true, true, true, false, false, false, false, false, false, false, false, false, false, false, false, false, false] rfl rfl (by kernel_rfl) (fun _ _ _ h => h) (Or.inl ⟨by rfl, ?_⟩) ?_ ?_
    rotate_left
    · intro w'
      go_simp
      with_reducible rfl
    rotate_left
    · simp only [Act.put, List.setIfInBounds_toArray, List.set_cons_zero, List.set_cons_succ, i64_w, i32_w]
      rfl
    refine pure_ (i := 4) (N := some 24) (v := ?_) (a' := ?_) #[true, true, true, false, true, false, false, false, false, false, false, false, false, false, false, false, false] rfl rfl (by kernel_rfl) (fun _ _ _ h => h) (Or.inl ⟨by rfl, ?_⟩) ?_ ?_
    rotate_left
    · intro w'
      go_simp
      with_reducible rfl
    rotate_left
    · simp only [Act.put, List.setIfInBounds_toArray, List.set_cons_zero, List.set_cons_succ, i64_w, i32_w]
      rfl
    refine pure_ (i := 5) (N := some 25) (v := ?_) (a' := ?_) #[true, true, true, false, true, true, false, false, false, false, false, false, false, false, false, false, false] rfl rfl (by kernel_rfl) (fun _ _ _ h => h) (Or.inl ⟨by rfl, ?_⟩) ?_ ?_
    rotate_left
    · intro w'
      go_simp
      with_reducible rfl
    rotate_left
    · simp only [Act.put, List.setIfInBounds_toArray, List.set_cons_zero, List.set_cons_succ, i64_w, i32_w]
      rfl
    refine pure_ (i := 6) (N := some 26) (v := ?_) (a' := ?_) #[true, true, true, false, true, true, true, false, false, false, false, false, false, false, false, false, false] rfl rfl (by kernel_rfl) (fun _ _ _ h => h) (Or.inl ⟨by rfl, ?_⟩) ?_ ?_
    rotate_left
    · intro w'
      go_simp
      with_reducible rfl
    rotate_left
    · simp only [Act.put, List.setIfInBounds_toArray, List.set_cons_zero, List.set_cons_succ, i64_w, i32_w]
      rfl
    refine pure_ (i := 7) (N := some 27) (v := ?_) (a' := ?_) #[true, true, true, false, true, true, true, true, false, false, false, false, false, false, false, false, false] rfl rfl (by kernel_rfl) (fun _ _ _ h => h) (Or.inl ⟨by rfl, ?_⟩) ?_ ?_
    rotate_left
    · intro w'
      go_simp
      with_reducible rfl
    rotate_left
    · simp only [Act.put, List.setIfInBounds_toArray, List.set_cons_zero, List.set_cons_succ, i64_w, i32_w]
      rfl
    refine pure_ (i := 9) (N := some 29) (v := ?_) (a' := ?_) #[true, true, true, false, true, true, true, true, false, true, false, false, false, false, false, false, false] rfl rfl (by kernel_rfl) (fun _ _ _ h => h) (Or.inl ⟨by rfl, ?_⟩) ?_ ?_
    rotate_left
    · intro w'
      go_simp
      with_reducible rfl
    rotate_left
    · simp only [Act.put, List.setIfInBounds_toArray, List.set_cons_zero, List.set_cons_succ, i64_w, i32_w]
      rfl
    refine take_ (i := 3) (N := some 23) (v := ?_) (a' := ?_) #[true, true, true, true, true, true, true, true, false, true, false, false, false, false, false, false, false] rfl rfl (by kernel_rfl) (fun _ _ _ h => h) (Or.inl ⟨by rfl, ?_⟩) hHeld ?_ ?_
    rotate_left
    · rintro w' ⟨s0, s1⟩
      go_simp
      with_reducible rfl
    rotate_left
    · simp only [Act.put, List.setIfInBounds_toArray, List.set_cons_zero, List.set_cons_succ, i64_w, i32_w]
      rfl
    refine take_ (i := 8) (N := some 28) (v := ?_) (a' := ?_) #[true, true, true, true, true, true, true, true, true, true, false, false, false, false, false, false, false] rfl rfl (by kernel_rfl) (fun _ _ _ h => h) (Or.inl ⟨by rfl, ?_⟩) hHeld ?_ ?_
    rotate_left
    · rintro w' ⟨s0, s1⟩
      go_simp
      with_reducible rfl
    rotate_left
    · simp only [Act.put, List.setIfInBounds_toArray, List.set_cons_zero, List.set_cons_succ, i64_w, i32_w]
      rfl
    refine one_ (i := 10) (N := some 30) #[true, true, true, true, true, true, true, true, true, true, true, false, false, false, false, false, false] rfl rfl (by kernel_rfl) (by decide) (fun K hK => ?_)
    refine goes_ Try.func58 (by kernel_rfl) rfl #[.pointer (some ⟨gl, 0, none⟩), .int .i64 (hf : Int), .int .i64 (p : Int)] (by rfl) rfl rfl (by simp only [List.map_toArray, List.map_cons, List.map_nil]; rfl) ?_
    with_reducible refine (HSEC1.out _).mono ?_
    rintro e w3 ⟨rfl, rfl⟩
    refine ⟨_, rfl, ?_⟩
    refine hK.out _ _ ⟨c0, c3⟩ (fun hHeld => ?_)
    clear hK K
    refine norm_ (a' := ?_) ?_ ?_
    rotate_left
    · show Act.put _ (some 30) _ = _
      simp only [Act.put, List.setIfInBounds_toArray, List.set_cons_zero, List.set_cons_succ, i64_w, i32_w]
      rfl
    refine one_ (i := 11) (N := some 31) #[true, true, true, true, true, true, true, true, true, true, true, true, false, false, false, false, false] rfl rfl (by kernel_rfl) (by decide) (fun K hK => ?_)
    refine goes_ Try.func44 (by kernel_rfl) rfl #[.pointer (some ⟨g, 0, none⟩), .int .i64 (2 + (hf : Int) * 127 + (p : Int))] (by rfl) rfl rfl (by simp only [List.map_toArray, List.map_cons, List.map_nil]; rfl) ?_
    with_reducible refine (HRD2.out).mono ?_
    rintro e w3 ⟨rfl, rfl⟩
    refine ⟨_, rfl, ?_⟩
    refine hK.out _ _ ⟨c0, c3⟩ (fun hHeld => ?_)
    clear hK K
    refine norm_ (a' := ?_) ?_ ?_
    rotate_left
    · show Act.put _ (some 31) _ = _
      simp only [Act.put, List.setIfInBounds_toArray, List.set_cons_zero, List.set_cons_succ, i64_w, i32_w]
      rfl
    refine pure_ (i := 12) (N := some 19) (v := ?_) (a' := ?_) #[true, true, true, true, true, true, true, true, true, true, true, true, true, false, false, false, false] rfl rfl (by kernel_rfl) (fun _ _ _ h => h) (Or.inl ⟨by rfl, ?_⟩) ?_ ?_
    rotate_left
    · intro w'
      go_simp
      with_reducible rfl
    rotate_left
    · simp only [Act.put, List.setIfInBounds_toArray, List.set_cons_zero, List.set_cons_succ, i64_w, i32_w]
      rfl
    refine pure_ (i := 13) (N := some 32) (v := ?_) (a' := ?_) #[true, true, true, true, true, true, true, true, true, true, true, true, true, true, false, false, false] rfl rfl (by kernel_rfl) (fun _ _ _ h => h) (Or.inl ⟨by rfl, ?_⟩) ?_ ?_
    rotate_left
    · intro w'
      go_simp
      with_reducible rfl
    rotate_left
    · simp only [Act.put, List.setIfInBounds_toArray, List.set_cons_zero, List.set_cons_succ, i64_w, i32_w]
      rfl
    refine pure_ (i := 14) (N := some 33) (v := ?_) (a' := ?_) #[true, true, true, true, true, true, true, true, true, true, true, true, true, true, true, false, false] rfl rfl (by kernel_rfl) (fun _ _ _ h => h) (Or.inl ⟨by rfl, ?_⟩) ?_ ?_
    rotate_left
    · intro w'
      go_simp
      with_reducible rfl
    rotate_left
    · simp only [Act.put, List.setIfInBounds_toArray, List.set_cons_zero, List.set_cons_succ, i64_w, i32_w]
      rfl
    refine pure_ (i := 15) (N := some 8) (v := ?_) (a' := ?_) #[true, true, true, true, true, true, true, true, true, true, true, true, true, true, true, true, false] rfl rfl (by kernel_rfl) (fun _ _ _ h => h) (Or.inl ⟨by rfl, ?_⟩) ?_ ?_
    rotate_left
    · intro w'
      go_simp
      with_reducible rfl
    rotate_left
    · simp only [Act.put, List.setIfInBounds_toArray, List.set_cons_zero, List.set_cons_succ, i64_w, i32_w]
      rfl
    refine pure_ (i := 16) (N := some 9) (v := ?_) (a' := ?_) #[true, true, true, true, true, true, true, true, true, true, true, true, true, true, true, true, true] rfl rfl (by kernel_rfl) (fun _ _ _ h => h) (Or.inl ⟨by rfl, ?_⟩) ?_ ?_
    rotate_left
    · intro w'
      go_simp
      with_reducible rfl
    rotate_left
    · simp only [Act.put, List.setIfInBounds_toArray, List.set_cons_zero, List.set_cons_succ, i64_w, i32_w]
      rfl
    refine done_ (by kernel_rfl) ?_
    dsimp only [log_Log_scan.NQ]
    clear hHeld c0 c3 HSEC1 HRD2
    have HI := Aside0.mk (HI.out.below (Below.refl _ _).drew)
    go_upto_region 11 with (go_at_call 57; (with_reducible refine (HDC1.out _).mono ?_); rintro e w3 ⟨rfl, hb3⟩; have HI := Aside0.mk (HI.out.below hb3); have HNE := Aside0.mk (Array.getElem?_eq_some_iff.1 HI.out.la).1; clear hb3)
    have HI := Aside0.mk (HI.out.below ((Below.refl w3.heap.size w3).alloc (Nat.le_refl _) (.cells #[.int .i64 ep, .int .i64 sq, .bool fi, .bool la, .string da] 25)))
    have HCB := Aside0.mk (Hw.blk_nw w3 (.cells #[.int .i64 ep, .int .i64 sq, .bool fi, .bool la, .string da] 25))
    clear HDC1
    generalize w3.heap.size = cb at HCB HNE ⊢
    generalize w3.alloc (.cells #[.int .i64 ep, .int .i64 sq, .bool fi, .bool la, .string da] 25) = W4 at HI HCB ⊢
    have k0 : W4.cell? ⟨cb, 0, none⟩ = some (.int .i64 ep) := cell_of_row W4 cb 0 _ _ _ HCB.out
    have k1 : W4.cell? ⟨cb, 1, none⟩ = some (.int .i64 sq) := cell_of_row W4 cb 1 _ _ _ HCB.out
    have k2 : W4.cell? ⟨cb, 2, none⟩ = some (.bool fi) := cell_of_row W4 cb 2 _ _ _ HCB.out
    have k3 : W4.cell? ⟨cb, 3, none⟩ = some (.bool la) := cell_of_row W4 cb 3 _ _ _ HCB.out
    have k4 : W4.cell? ⟨cb, 4, none⟩ = some (.string da) := cell_of_row W4 cb 4 _ _ _ HCB.out
    have m0 : W4.cell? ⟨w.heap.size + 1, 0, none⟩ = some (.int .i64 le) := cell_of_row W4 _ 0 _ _ _ HI.out.la
    have m3 : W4.cell? ⟨w.heap.size + 1, 3, none⟩ = some (.bool ll) := cell_of_row W4 _ 3 _ _ _ HI.out.la
    have c1 : W4.cell? ⟨gl, 1, none⟩ = some (.int .i64 lep) := HI.out.at_.c1
    by_cases t1 : er = 0
    case neg =>
      have d1 : (er != 0) = true := bne_iff_ne.2 t1
      have hno : Lg.good lep (ep, sq, fi, la, da, er) p le ll = false := by unfold Lg.good; simp [t1]
      rw [hno, if_neg (by decide)] at HR
      clear hno
      go_quiet (fail)
      clear k0 k1 k2 k3 k4 m0 m3 c1
      rename_i nq
      have HI := Aside0.mk (HI.out.below (pw_below_drewN (Below.refl _ _) nq))
      go_wp2_with (fail)
      go_ret2
      rw [← HR.out]
      exact ⟨_, rfl, HI.out.rr, HI.out.at_, HI.out.k⟩
    subst t1
    by_cases t2 : sq = (p : Int)
    case neg =>
      have d2 : (sq != (p : Int)) = true := bne_iff_ne.2 t2
      have hno : Lg.good lep (ep, sq, fi, la, da, 0) p le ll = false := by unfold Lg.good; simp [t2]
      rw [hno, if_neg (by decide)] at HR
      clear hno
      go_quiet (fail)
      clear k0 k1 k2 k3 k4 m0 m3 c1
      rename_i nq
      have HI := Aside0.mk (HI.out.below (pw_below_drewN (Below.refl _ _) nq))
      go_wp2_with (fail)
      go_ret2
      rw [← HR.out]
      exact ⟨_, rfl, HI.out.rr, HI.out.at_, HI.out.k⟩
    subst t2
    have d2 : ((p : Int) != (p : Int)) = false := bne_self_eq_false _
    by_cases t3 : le ≤ ep
    case neg =>
      have d3 : decide (ep < le) = true := decide_eq_true (by omega)
      have hno : Lg.good lep (ep, (p : Int), fi, la, da, 0) p le ll = false := by unfold Lg.good; simp [t3]
      rw [hno, if_neg (by decide)] at HR
      clear hno
      go_quiet (fail)
      clear k0 k1 k2 k3 k4 m0 m3 c1
      rename_i nq
      have HI := Aside0.mk (HI.out.below (pw_below_drewN (Below.refl _ _) nq))
      go_wp2_with (fail)
      go_ret2
      rw [← HR.out]
      exact ⟨_, rfl, HI.out.rr, HI.out.at_, HI.out.k⟩
    have d3 : decide (ep < le) = false := decide_eq_false (by omega)
    by_cases t4 : ep ≤ lep
    case neg =>
      have d4 : decide (lep < ep) = true := decide_eq_true (by omega)
      have hno : Lg.good lep (ep, (p : Int), fi, la, da, 0) p le ll = false := by unfold Lg.good; simp [t4]
      rw [hno, if_neg (by decide)] at HR
      clear hno
      go_quiet (fail)
      clear k0 k1 k2 k3 k4 m0 m3 c1
      rename_i nq
      have HI := Aside0.mk (HI.out.below (pw_below_drewN (Below.refl _ _) nq))
      go_wp2_with (fail)
      go_ret2
      rw [← HR.out]
      exact ⟨_, rfl, HI.out.rr, HI.out.at_, HI.out.k⟩
    have d4 : decide (lep < ep) = false := decide_eq_false (by omega)
    cases ll
    case true =>
      cases fi
      case false =>
        have hno : Lg.good lep (ep, (p : Int), false, la, da, 0) p le true = false := by unfold Lg.good; simp
        rw [hno, if_neg (by decide)] at HR
        clear hno
        go_quiet (fail)
        clear k0 k1 k2 k3 k4 m0 m3 c1
        rename_i nq
        have HI := Aside0.mk (HI.out.below (pw_below_drewN (Below.refl _ _) nq))
        go_wp2_with (fail)
        go_ret2
        rw [← HR.out]
        exact ⟨_, rfl, HI.out.rr, HI.out.at_, HI.out.k⟩
      case true =>
        have hyes : Lg.good lep (ep, (p : Int), true, la, da, 0) p le true = true := by unfold Lg.good; simp [t3, t4]
        rw [if_pos hyes] at HR
        clear hyes
        go_quiet (fail)
        clear m0 m3 c1
        rename_i nq
        have HI := Aside0.mk (HI.out.below (pw_below_drewN (Below.refl _ _) nq))
        have HCB := Aside0.mk (show (W4.drewN nq).heap[cb]? = _ from HCB.out)
        have HBS : Aside0 (∀ W, log_Log_scan.I w W base gl g w.heap.size (w.heap.size + 1) ⟨lep, lba, (hf : Int), lnx, ler⟩ nx recs u4 now le lsq lf true ld → Calls Try.prog 59 #[.pointer (some ⟨w.heap.size, 0, none⟩), .string da] W fun e w' => e = .returned (.tuple #[.int .i64 da.size, .nilIface]) ∧ strings_Builder_copyCheck.Wr 95 w.heap.size w.heap.size (Lib.byteCells (now ++ da.data.toList)) w' ∧ Below w.heap.size W w' ∧ strings_Builder_copyCheck.Fr 95 W w') := ⟨fun W hI => by
          have e := strings_Builder_WriteString.calls_wr 95 log_Log_scan.okT w.heap.size w.heap.size (Lib.byteCells now) da W hI.wr (by rw [Lib.byteCells_length]; omega) hI.k.size
          have q : Lib.byteCells now ++ Lib.strCells da = Lib.byteCells (now ++ da.data.toList) := by unfold Lib.byteCells Lib.strCells; simp
          rw [q] at e
          exact e⟩
        have HCK : Aside0 (∀ W W', W.heap[cb]? = some (.cells #[.int .i64 ep, .int .i64 (p : Int), .bool true, .bool la, .string da] 25) → strings_Builder_copyCheck.Fr 95 W W' → W'.heap[cb]? = some (.cells #[.int .i64 ep, .int .i64 (p : Int), .bool true, .bool la, .string da] 25)) := ⟨fun W W' hc hf => hf.2 _ _ hc (fun _ _ e => by injection e with _ e; exact absurd e (by decide)) (fun _ _ e => by injection e with _ e; exact absurd e (by decide))⟩
        cases la
        case false =>
          rw [if_neg (by decide)] at HR
          have y4 : (W4.drewN nq).cell? ⟨cb, 4, none⟩ = some (.string da) := cell_of_row _ cb 4 _ _ _ HCB.out
          clear k0 k1 k2 k3 k4
          go_upto_region 13 with (go_at_call 59; (with_reducible refine (HBS.out _ HI.out).mono ?_); rintro e w5 ⟨rfl, hw5, hb5, hf5⟩; have HI := Aside0.mk (HI.out.fr hw5 hb5 hf5); have HCB := Aside0.mk (HCK.out _ _ HCB.out hf5); clear hw5 hb5 hf5 y4)
          clear HBS HCK
          have z0 : w5.cell? ⟨cb, 0, none⟩ = some (.int .i64 ep) := cell_of_row w5 cb 0 _ _ _ HCB.out
          have z1 : w5.cell? ⟨cb, 1, none⟩ = some (.int .i64 (p : Int)) := cell_of_row w5 cb 1 _ _ _ HCB.out
          have z2 : w5.cell? ⟨cb, 2, none⟩ = some (.bool true) := cell_of_row w5 cb 2 _ _ _ HCB.out
          have z3 : w5.cell? ⟨cb, 3, none⟩ = some (.bool false) := cell_of_row w5 cb 3 _ _ _ HCB.out
          have z4 : w5.cell? ⟨cb, 4, none⟩ = some (.string da) := cell_of_row w5 cb 4 _ _ _ HCB.out
          have n0 : w5.cell? ⟨w.heap.size + 1, 0, none⟩ = some (.int .i64 le) := cell_of_row w5 _ 0 _ _ _ HI.out.la
          have n1 : w5.cell? ⟨w.heap.size + 1, 1, none⟩ = some (.int .i64 lsq) := cell_of_row w5 _ 1 _ _ _ HI.out.la
          have n2 : w5.cell? ⟨w.heap.size + 1, 2, none⟩ = some (.bool lf) := cell_of_row w5 _ 2 _ _ _ HI.out.la
          have n3 : w5.cell? ⟨w.heap.size + 1, 3, none⟩ = some (.bool true) := cell_of_row w5 _ 3 _ _ _ HI.out.la
          have n4 : w5.cell? ⟨w.heap.size + 1, 4, none⟩ = some (.string ld) := cell_of_row w5 _ 4 _ _ _ HI.out.la
          have nf : ∀ k, w5.frozen? ⟨w.heap.size + 1, k, none⟩ = false := fun k => by simp only [World.frozen?]; rw [HI.out.la]; rfl
          have HI := Aside0.mk (HI.out.last5 ep (p : Int) true false da)
          have hne : cb ≠ w.heap.size + 1 := by have := HNE.out; omega
          go_upto_region 14 with fail
          have HCB := Aside0.mk (log_Log_scan.keep5 (v0 := .int .i64 ep) (v1 := .int .i64 (p : Int)) (v2 := .bool true) (v3 := .bool false) (v4 := .string da) HCB.out hne)
          clear z0 z1 z2 z3 z4 n0 n1 n2 n3 n4 nf
          generalize (((((w5.setCell ⟨w.heap.size + 1, 0, none⟩ (.int .i64 ep)).setCell ⟨w.heap.size + 1, 1, none⟩ (.int .i64 (p : Int))).setCell ⟨w.heap.size + 1, 2, none⟩ (.bool true)).setCell ⟨w.heap.size + 1, 3, none⟩ (.bool false)).setCell ⟨w.heap.size + 1, 4, none⟩ (.string da)) = W6 at HI HCB ⊢
          have z3 : W6.cell? ⟨cb, 3, none⟩ = some (.bool false) := cell_of_row W6 cb 3 _ _ _ HCB.out
          have hdl := data_length da
          go_wp2_with (fail)
          go_roundg gk
          case measure => omega
          case rel => exact ⟨p + 1, recs, now ++ da.data.toList, ep, (p : Int), true, false, da, nx, by rw [Int.natCast_add]; rfl, by omega, by omega, by omega, by rw [List.length_append]; omega, ⟨by rw [show 127 - (p + 1) = d by omega]; exact HR.out⟩, HI⟩
        case true =>
          rw [if_pos rfl] at HR
          have y4 : (W4.drewN nq).cell? ⟨cb, 4, none⟩ = some (.string da) := cell_of_row _ cb 4 _ _ _ HCB.out
          clear k0 k1 k2 k3 k4
          go_upto_region 13 with (go_at_call 59; (with_reducible refine (HBS.out _ HI.out).mono ?_); rintro e w5 ⟨rfl, hw5, hb5, hf5⟩; have HI := Aside0.mk (HI.out.fr hw5 hb5 hf5); have HCB := Aside0.mk (HCK.out _ _ HCB.out hf5); clear hw5 hb5 hf5 y4)
          clear HBS HCK
          have z0 : w5.cell? ⟨cb, 0, none⟩ = some (.int .i64 ep) := cell_of_row w5 cb 0 _ _ _ HCB.out
          have z1 : w5.cell? ⟨cb, 1, none⟩ = some (.int .i64 (p : Int)) := cell_of_row w5 cb 1 _ _ _ HCB.out
          have z2 : w5.cell? ⟨cb, 2, none⟩ = some (.bool true) := cell_of_row w5 cb 2 _ _ _ HCB.out
          have z3 : w5.cell? ⟨cb, 3, none⟩ = some (.bool true) := cell_of_row w5 cb 3 _ _ _ HCB.out
          have z4 : w5.cell? ⟨cb, 4, none⟩ = some (.string da) := cell_of_row w5 cb 4 _ _ _ HCB.out
          have n0 : w5.cell? ⟨w.heap.size + 1, 0, none⟩ = some (.int .i64 le) := cell_of_row w5 _ 0 _ _ _ HI.out.la
          have n1 : w5.cell? ⟨w.heap.size + 1, 1, none⟩ = some (.int .i64 lsq) := cell_of_row w5 _ 1 _ _ _ HI.out.la
          have n2 : w5.cell? ⟨w.heap.size + 1, 2, none⟩ = some (.bool lf) := cell_of_row w5 _ 2 _ _ _ HI.out.la
          have n3 : w5.cell? ⟨w.heap.size + 1, 3, none⟩ = some (.bool true) := cell_of_row w5 _ 3 _ _ _ HI.out.la
          have n4 : w5.cell? ⟨w.heap.size + 1, 4, none⟩ = some (.string ld) := cell_of_row w5 _ 4 _ _ _ HI.out.la
          have nf : ∀ k, w5.frozen? ⟨w.heap.size + 1, k, none⟩ = false := fun k => by simp only [World.frozen?]; rw [HI.out.la]; rfl
          have HI := Aside0.mk (HI.out.last5 ep (p : Int) true true da)
          have hne : cb ≠ w.heap.size + 1 := by have := HNE.out; omega
          go_upto_region 14 with fail
          have HCB := Aside0.mk (log_Log_scan.keep5 (v0 := .int .i64 ep) (v1 := .int .i64 (p : Int)) (v2 := .bool true) (v3 := .bool true) (v4 := .string da) HCB.out hne)
          clear z0 z1 z2 z3 z4 n0 n1 n2 n3 n4 nf
          generalize (((((w5.setCell ⟨w.heap.size + 1, 0, none⟩ (.int .i64 ep)).setCell ⟨w.heap.size + 1, 1, none⟩ (.int .i64 (p : Int))).setCell ⟨w.heap.size + 1, 2, none⟩ (.bool true)).setCell ⟨w.heap.size + 1, 3, none⟩ (.bool true)).setCell ⟨w.heap.size + 1, 4, none⟩ (.string da)) = W6 at HI HCB ⊢
          have z3 : W6.cell? ⟨cb, 3, none⟩ = some (.bool true) := cell_of_row W6 cb 3 _ _ _ HCB.out
          have hdl := data_length da
          have HJ : Aside0 ((Try.prog.info? 9).map (fun i => (i.zero, i.size, i.bytes)) = some (some (.string ⟨#[]⟩), Kd.string.sz, 16)) := ⟨by kernel_rfl⟩
          go_upto_region 15 with fail
          clear z3
          go_upto_region 17 with (first | (go_at_call 60; (with_reducible refine (strings_Builder_String.calls_fr 95 w.heap.size w.heap.size (now ++ da.data.toList) _ HI.out.wr).mono ?_); rintro e w7 ⟨rfl, hw7, hb7, hf7⟩; have HI := Aside0.mk (HI.out.fr hw7 hb7 hf7); clear hw7 hb7 hf7; have HRX := Aside0.mk (log_Log_scan.row1 (Kd.string.M (w7.alloc (.cells #[.string ⟨(now ++ da.data.toList).toArray⟩] 9)) w.heap.size (fun _ => False)) (x := (⟨(now ++ da.data.toList).toArray⟩ : ByteArray)) (Hw.blk_nw w7 (.cells #[.string ⟨(now ++ da.data.toList).toArray⟩] 9)) rfl); have HI := Aside0.mk (HI.out.below ((Below.refl w7.heap.size w7).alloc (Nat.le_refl _) (.cells #[.string ⟨(now ++ da.data.toList).toArray⟩] 9))); clear HCB) | ((with_reducible refine gate_builtin (b := .append) (xs := #[.tmp 91, .tmp 93]) rfl ?_); at_builtin; refine Kd.R_append_rows Kd.string (w0 := w7.alloc (.cells #[.string ⟨(now ++ da.data.toList).toArray⟩] 9)) w.heap.size rfl (.tmp 91) (.tmp 93) 35 9 (.string ⟨#[]⟩) 16 rfl Try.underlying35 HJ.out rfl (by decide) (by omega) u4 recs [⟨(now ++ da.data.toList).toArray⟩] (some ⟨w7.heap.size, 0, none⟩) 1 1 (fun _ => True) (fun _ => False) rfl rfl HI.out.rr HRX.out (fun _ _ h => h) (fun _ h => h.elim) (fun _ _ => trivial) (Below.refl _ _) HI.out.k.size (by omega) ?_; intro v94 w8 ho hb8 hg8 hat8; have HI := Aside0.mk (HI.out.app ho hb8 (log_Log_scan.Only.grown HI.out.rr hg8)); clear ho hb8 hg8 hat8 HRX) | (go_at_call 61; (with_reducible refine (strings_Builder_Reset.calls 95 w.heap.size w.heap.size (Lib.byteCells (now ++ da.data.toList)) _ HI.out.wr).mono ?_); rintro e w9 ⟨rfl, hw9, hb9, hf9⟩; have HI := Aside0.mk (HI.out.fr (now' := []) hw9 hb9 hf9); clear hw9 hb9 hf9))
          have g4 := HI.out.at_.c4
          have f4 := HI.out.at_.fz 4
          have HI := Aside0.mk (HI.out.next ((p : Int) + 1))
          clear HJ
          go_wp2_with (fail)
          go_roundg gk
          case measure => omega
          case rel => exact ⟨p + 1, recs ++ [⟨(now ++ da.data.toList).toArray⟩], [], ep, (p : Int), true, true, da, (p : Int) + 1, by rw [Int.natCast_add]; rfl, by omega, by omega, by rw [List.length_append, List.length_singleton]; omega, Nat.zero_le _, ⟨by rw [show 127 - (p + 1) = d by omega]; exact HR.out⟩, HI⟩
    case false =>
      cases fi
      case true =>
        have hno : Lg.good lep (ep, (p : Int), true, la, da, 0) p le false = false := by unfold Lg.good; simp
        rw [hno, if_neg (by decide)] at HR
        clear hno
        go_quiet (fail)
        clear k0 k1 k2 k3 k4 m0 m3 c1
        rename_i nq
        have HI := Aside0.mk (HI.out.below (pw_below_drewN (Below.refl _ _) nq))
        go_wp2_with (fail)
        go_ret2
        rw [← HR.out]
        exact ⟨_, rfl, HI.out.rr, HI.out.at_, HI.out.k⟩
      case false =>
        by_cases t6 : ep = le
        case neg =>
          have d6 : (ep != le) = true := bne_iff_ne.2 t6
          have hno : Lg.good lep (ep, (p : Int), false, la, da, 0) p le false = false := by unfold Lg.good; simp [t6]
          rw [hno, if_neg (by decide)] at HR
          clear hno
          go_quiet (fail)
          clear k0 k1 k2 k3 k4 m0 m3 c1
          rename_i nq
          have HI := Aside0.mk (HI.out.below (pw_below_drewN (Below.refl _ _) nq))
          go_wp2_with (fail)
          go_ret2
          rw [← HR.out]
          exact ⟨_, rfl, HI.out.rr, HI.out.at_, HI.out.k⟩
        subst t6
        have d6 : (ep != ep) = false := bne_self_eq_false ep
        have hyes : Lg.good lep (ep, (p : Int), false, la, da, 0) p ep false = true := by unfold Lg.good; simp [t3, t4]
        rw [if_pos hyes] at HR
        clear hyes
        go_quiet (fail)
        clear m0 m3 c1
        rename_i nq
        have HI := Aside0.mk (HI.out.below (pw_below_drewN (Below.refl _ _) nq))
        have HCB := Aside0.mk (show (W4.drewN nq).heap[cb]? = _ from HCB.out)
        have HBS : Aside0 (∀ W, log_Log_scan.I w W base gl g w.heap.size (w.heap.size + 1) ⟨lep, lba, (hf : Int), lnx, ler⟩ nx recs u4 now ep lsq lf false ld → Calls Try.prog 59 #[.pointer (some ⟨w.heap.size, 0, none⟩), .string da] W fun e w' => e = .returned (.tuple #[.int .i64 da.size, .nilIface]) ∧ strings_Builder_copyCheck.Wr 95 w.heap.size w.heap.size (Lib.byteCells (now ++ da.data.toList)) w' ∧ Below w.heap.size W w' ∧ strings_Builder_copyCheck.Fr 95 W w') := ⟨fun W hI => by
          have e := strings_Builder_WriteString.calls_wr 95 log_Log_scan.okT w.heap.size w.heap.size (Lib.byteCells now) da W hI.wr (by rw [Lib.byteCells_length]; omega) hI.k.size
          have q : Lib.byteCells now ++ Lib.strCells da = Lib.byteCells (now ++ da.data.toList) := by unfold Lib.byteCells Lib.strCells; simp
          rw [q] at e
          exact e⟩
        have HCK : Aside0 (∀ W W', W.heap[cb]? = some (.cells #[.int .i64 ep, .int .i64 (p : Int), .bool false, .bool la, .string da] 25) → strings_Builder_copyCheck.Fr 95 W W' → W'.heap[cb]? = some (.cells #[.int .i64 ep, .int .i64 (p : Int), .bool false, .bool la, .string da] 25)) := ⟨fun W W' hc hf => hf.2 _ _ hc (fun _ _ e => by injection e with _ e; exact absurd e (by decide)) (fun _ _ e => by injection e with _ e; exact absurd e (by decide))⟩
        cases la
        case false =>
          rw [if_neg (by decide)] at HR
          have y4 : (W4.drewN nq).cell? ⟨cb, 4, none⟩ = some (.string da) := cell_of_row _ cb 4 _ _ _ HCB.out
          clear k0 k1 k2 k3 k4
          go_upto_region 13 with (go_at_call 59; (with_reducible refine (HBS.out _ HI.out).mono ?_); rintro e w5 ⟨rfl, hw5, hb5, hf5⟩; have HI := Aside0.mk (HI.out.fr hw5 hb5 hf5); have HCB := Aside0.mk (HCK.out _ _ HCB.out hf5); clear hw5 hb5 hf5 y4)
          clear HBS HCK
          have z0 : w5.cell? ⟨cb, 0, none⟩ = some (.int .i64 ep) := cell_of_row w5 cb 0 _ _ _ HCB.out
          have z1 : w5.cell? ⟨cb, 1, none⟩ = some (.int .i64 (p : Int)) := cell_of_row w5 cb 1 _ _ _ HCB.out
          have z2 : w5.cell? ⟨cb, 2, none⟩ = some (.bool false) := cell_of_row w5 cb 2 _ _ _ HCB.out
          have z3 : w5.cell? ⟨cb, 3, none⟩ = some (.bool false) := cell_of_row w5 cb 3 _ _ _ HCB.out
          have z4 : w5.cell? ⟨cb, 4, none⟩ = some (.string da) := cell_of_row w5 cb 4 _ _ _ HCB.out
          have n0 : w5.cell? ⟨w.heap.size + 1, 0, none⟩ = some (.int .i64 ep) := cell_of_row w5 _ 0 _ _ _ HI.out.la
          have n1 : w5.cell? ⟨w.heap.size + 1, 1, none⟩ = some (.int .i64 lsq) := cell_of_row w5 _ 1 _ _ _ HI.out.la
          have n2 : w5.cell? ⟨w.heap.size + 1, 2, none⟩ = some (.bool lf) := cell_of_row w5 _ 2 _ _ _ HI.out.la
          have n3 : w5.cell? ⟨w.heap.size + 1, 3, none⟩ = some (.bool false) := cell_of_row w5 _ 3 _ _ _ HI.out.la
          have n4 : w5.cell? ⟨w.heap.size + 1, 4, none⟩ = some (.string ld) := cell_of_row w5 _ 4 _ _ _ HI.out.la
          have nf : ∀ k, w5.frozen? ⟨w.heap.size + 1, k, none⟩ = false := fun k => by simp only [World.frozen?]; rw [HI.out.la]; rfl
          have HI := Aside0.mk (HI.out.last5 ep (p : Int) false false da)
          have hne : cb ≠ w.heap.size + 1 := by have := HNE.out; omega
          go_upto_region 14 with fail
          have HCB := Aside0.mk (log_Log_scan.keep5 (v0 := .int .i64 ep) (v1 := .int .i64 (p : Int)) (v2 := .bool false) (v3 := .bool false) (v4 := .string da) HCB.out hne)
          clear z0 z1 z2 z3 z4 n0 n1 n2 n3 n4 nf
          generalize (((((w5.setCell ⟨w.heap.size + 1, 0, none⟩ (.int .i64 ep)).setCell ⟨w.heap.size + 1, 1, none⟩ (.int .i64 (p : Int))).setCell ⟨w.heap.size + 1, 2, none⟩ (.bool false)).setCell ⟨w.heap.size + 1, 3, none⟩ (.bool false)).setCell ⟨w.heap.size + 1, 4, none⟩ (.string da)) = W6 at HI HCB ⊢
          have z3 : W6.cell? ⟨cb, 3, none⟩ = some (.bool false) := cell_of_row W6 cb 3 _ _ _ HCB.out
          have hdl := data_length da
          go_wp2_with (fail)
          go_roundg gk
          case measure => omega
          case rel => exact ⟨p + 1, recs, now ++ da.data.toList, ep, (p : Int), false, false, da, nx, by rw [Int.natCast_add]; rfl, by omega, by omega, by omega, by rw [List.length_append]; omega, ⟨by rw [show 127 - (p + 1) = d by omega]; exact HR.out⟩, HI⟩
        case true =>
          rw [if_pos rfl] at HR
          have y4 : (W4.drewN nq).cell? ⟨cb, 4, none⟩ = some (.string da) := cell_of_row _ cb 4 _ _ _ HCB.out
          clear k0 k1 k2 k3 k4
          go_upto_region 13 with (go_at_call 59; (with_reducible refine (HBS.out _ HI.out).mono ?_); rintro e w5 ⟨rfl, hw5, hb5, hf5⟩; have HI := Aside0.mk (HI.out.fr hw5 hb5 hf5); have HCB := Aside0.mk (HCK.out _ _ HCB.out hf5); clear hw5 hb5 hf5 y4)
          clear HBS HCK
          have z0 : w5.cell? ⟨cb, 0, none⟩ = some (.int .i64 ep) := cell_of_row w5 cb 0 _ _ _ HCB.out
          have z1 : w5.cell? ⟨cb, 1, none⟩ = some (.int .i64 (p : Int)) := cell_of_row w5 cb 1 _ _ _ HCB.out
          have z2 : w5.cell? ⟨cb, 2, none⟩ = some (.bool false) := cell_of_row w5 cb 2 _ _ _ HCB.out
          have z3 : w5.cell? ⟨cb, 3, none⟩ = some (.bool true) := cell_of_row w5 cb 3 _ _ _ HCB.out
          have z4 : w5.cell? ⟨cb, 4, none⟩ = some (.string da) := cell_of_row w5 cb 4 _ _ _ HCB.out
          have n0 : w5.cell? ⟨w.heap.size + 1, 0, none⟩ = some (.int .i64 ep) := cell_of_row w5 _ 0 _ _ _ HI.out.la
          have n1 : w5.cell? ⟨w.heap.size + 1, 1, none⟩ = some (.int .i64 lsq) := cell_of_row w5 _ 1 _ _ _ HI.out.la
          have n2 : w5.cell? ⟨w.heap.size + 1, 2, none⟩ = some (.bool lf) := cell_of_row w5 _ 2 _ _ _ HI.out.la
          have n3 : w5.cell? ⟨w.heap.size + 1, 3, none⟩ = some (.bool false) := cell_of_row w5 _ 3 _ _ _ HI.out.la
          have n4 : w5.cell? ⟨w.heap.size + 1, 4, none⟩ = some (.string ld) := cell_of_row w5 _ 4 _ _ _ HI.out.la
          have nf : ∀ k, w5.frozen? ⟨w.heap.size + 1, k, none⟩ = false := fun k => by simp only [World.frozen?]; rw [HI.out.la]; rfl
          have HI := Aside0.mk (HI.out.last5 ep (p : Int) false true da)
          have hne : cb ≠ w.heap.size + 1 := by have := HNE.out; omega
          go_upto_region 14 with fail
          have HCB := Aside0.mk (log_Log_scan.keep5 (v0 := .int .i64 ep) (v1 := .int .i64 (p : Int)) (v2 := .bool false) (v3 := .bool true) (v4 := .string da) HCB.out hne)
          clear z0 z1 z2 z3 z4 n0 n1 n2 n3 n4 nf
          generalize (((((w5.setCell ⟨w.heap.size + 1, 0, none⟩ (.int .i64 ep)).setCell ⟨w.heap.size + 1, 1, none⟩ (.int .i64 (p : Int))).setCell ⟨w.heap.size + 1, 2, none⟩ (.bool false)).setCell ⟨w.heap.size + 1, 3, none⟩ (.bool true)).setCell ⟨w.heap.size + 1, 4, none⟩ (.string da)) = W6 at HI HCB ⊢
          have z3 : W6.cell? ⟨cb, 3, none⟩ = some (.bool true) := cell_of_row W6 cb 3 _ _ _ HCB.out
          have hdl := data_length da
          have HJ : Aside0 ((Try.prog.info? 9).map (fun i => (i.zero, i.size, i.bytes)) = some (some (.string ⟨#[]⟩), Kd.string.sz, 16)) := ⟨by kernel_rfl⟩
          go_upto_region 15 with fail
          clear z3
          go_upto_region 17 with (first | (go_at_call 60; (with_reducible refine (strings_Builder_String.calls_fr 95 w.heap.size w.heap.size (now ++ da.data.toList) _ HI.out.wr).mono ?_); rintro e w7 ⟨rfl, hw7, hb7, hf7⟩; have HI := Aside0.mk (HI.out.fr hw7 hb7 hf7); clear hw7 hb7 hf7; have HRX := Aside0.mk (log_Log_scan.row1 (Kd.string.M (w7.alloc (.cells #[.string ⟨(now ++ da.data.toList).toArray⟩] 9)) w.heap.size (fun _ => False)) (x := (⟨(now ++ da.data.toList).toArray⟩ : ByteArray)) (Hw.blk_nw w7 (.cells #[.string ⟨(now ++ da.data.toList).toArray⟩] 9)) rfl); have HI := Aside0.mk (HI.out.below ((Below.refl w7.heap.size w7).alloc (Nat.le_refl _) (.cells #[.string ⟨(now ++ da.data.toList).toArray⟩] 9))); clear HCB) | ((with_reducible refine gate_builtin (b := .append) (xs := #[.tmp 91, .tmp 93]) rfl ?_); at_builtin; refine Kd.R_append_rows Kd.string (w0 := w7.alloc (.cells #[.string ⟨(now ++ da.data.toList).toArray⟩] 9)) w.heap.size rfl (.tmp 91) (.tmp 93) 35 9 (.string ⟨#[]⟩) 16 rfl Try.underlying35 HJ.out rfl (by decide) (by omega) u4 recs [⟨(now ++ da.data.toList).toArray⟩] (some ⟨w7.heap.size, 0, none⟩) 1 1 (fun _ => True) (fun _ => False) rfl rfl HI.out.rr HRX.out (fun _ _ h => h) (fun _ h => h.elim) (fun _ _ => trivial) (Below.refl _ _) HI.out.k.size (by omega) ?_; intro v94 w8 ho hb8 hg8 hat8; have HI := Aside0.mk (HI.out.app ho hb8 (log_Log_scan.Only.grown HI.out.rr hg8)); clear ho hb8 hg8 hat8 HRX) | (go_at_call 61; (with_reducible refine (strings_Builder_Reset.calls 95 w.heap.size w.heap.size (Lib.byteCells (now ++ da.data.toList)) _ HI.out.wr).mono ?_); rintro e w9 ⟨rfl, hw9, hb9, hf9⟩; have HI := Aside0.mk (HI.out.fr (now' := []) hw9 hb9 hf9); clear hw9 hb9 hf9))
          have g4 := HI.out.at_.c4
          have f4 := HI.out.at_.fz 4
          have HI := Aside0.mk (HI.out.next ((p : Int) + 1))
          clear HJ
          go_wp2_with (fail)
          go_roundg gk
          case measure => omega
          case rel => exact ⟨p + 1, recs ++ [⟨(now ++ da.data.toList).toArray⟩], [], ep, (p : Int), false, true, da, (p : Int) + 1, by rw [Int.natCast_add]; rfl, by omega, by omega, by rw [List.length_append, List.length_singleton]; omega, Nat.zero_le _, ⟨by rw [show 127 - (p + 1) = d by omega]; exact HR.out⟩, HI⟩

end Go.Proofs.Ytfdccgpbdcdgmaa.PLogRoom

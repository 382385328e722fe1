-- By a program of this session (wip/tools/mkprint.py), for this claim.
import Derived.Test.YtndmfbaffkekgaaPChunkSpoiltx0
namespace Go.Proofs.Ytndmfbaffkekgaa.PChunkSpoilt
open Go.RowKit Go.Proofs.YtndmfbaffkekgaaW.PrintWords Go.Proofs.YtndmfbaffkekgaaW.PrintLast Go.Proofs.YtndmfbaffkekgaaW.PrintMore
attribute [local go_sem] max2_int min2_int max_two min_two max_three min_three max_four min_four   -- for this text's walks alone
set_option linter.unusedVariables false
set_option linter.unusedSimpArgs false

/-- A state of type 70 at block g of W; what its slices lead to came in by w0. -/
def IsS70 (w0 W : World) (g : Nat) (f0 : ByteArray) (f1 : Int) : Prop := W.heap[g]? = some (.cells #[.string f0, .int .i64 f1] 70 (0, 0)) ∧ w0.heap.size ≤ g
theorem IsS70.grown {w0 W : World} {g : Nat} {f0 : ByteArray} {f1 : Int} {W1 : World} {row : Option Nat} (h : IsS70 w0 W g f0 f1) (hw : W.grownBy W1 row) (hne : some g ≠ row) : IsS70 w0 W1 g f0 f1 := by
  obtain ⟨hb, hg⟩ := h
  exact ⟨blk_grown hb hw hne, hg⟩
theorem IsS70.own_neN {w0 W : World} {g : Nat} {f0 : ByteArray} {f1 : Int} {α : Type} {d : Kd α} {e : Nat} {base : Nat} {ok : Nat → Prop} {v : Value} {xs : List α} (h : IsS70 w0 W g f0 f1) (ho : Kd.N d e W base ok v xs) (ht : e ≠ 70) : some g ≠ v.ownBlock := by
  obtain ⟨hb, hg⟩ := h
  exact Kd.N_ne ho hb ht
theorem IsS70.fresh {w0 W : World} {g : Nat} {f0 : ByteArray} {f1 : Int} (h : IsS70 w0 W g f0 f1) : ∀ k, W.heap.size ≤ k → k ≠ g := by
  obtain ⟨hb, hg⟩ := h
  exact Kd.freshB hb
theorem IsS70.kept {w0 W : World} {g : Nat} {f0 : ByteArray} {f1 : Int} {W1 : World} {S : Nat → Prop} (h : IsS70 w0 W g f0 f1) (hk : Kept W W1 S) (hne : ¬ S g) : IsS70 w0 W1 g f0 f1 := by
  obtain ⟨hb, hg⟩ := h
  exact ⟨blk_kept hb hk hne, hg⟩
theorem IsS70.below {w0 W : World} {g : Nat} {f0 : ByteArray} {f1 : Int} {W1 : World} (h : IsS70 w0 W g f0 f1) (hw : Below W.heap.size W W1) : IsS70 w0 W1 g f0 f1 := h.grown (grown_of_below hw none) (by simp)
theorem IsS70.alloc {w0 W : World} {g : Nat} {f0 : ByteArray} {f1 : Int} (h : IsS70 w0 W g f0 f1) (o : Obj) : IsS70 w0 (W.alloc o) g f0 f1 := h.below (below_alloc (Below.refl _ _) o)
theorem IsS70.drewN {w0 W : World} {g : Nat} {f0 : ByteArray} {f1 : Int} (h : IsS70 w0 W g f0 f1) (m : Nat) : IsS70 w0 (W.drewN m) g f0 f1 := h
theorem IsS70.drew {w0 W : World} {g : Nat} {f0 : ByteArray} {f1 : Int} (h : IsS70 w0 W g f0 f1) : IsS70 w0 W.drew g f0 f1 := h
theorem IsS70.at_ {w0 W : World} {g : Nat} {f0 : ByteArray} {f1 : Int} {w' : World} {m : Nat} (hq : W.drewN m = w') (h : IsS70 w0 W g f0 f1) : IsS70 w0 w' g f0 f1 := by subst hq; exact IsS70.drewN h m
theorem IsS70.apart {w0 W : World} {g : Nat} {f0 : ByteArray} {f1 : Int} {α : Type} {d : Kd α} {e : Nat} {base : Nat} {ok : Nat → Prop} {v : Value} {xs : List α} (h : IsS70 w0 W g f0 f1) (ho : d.R e W base ok v xs) (ht : ∀ q, q ∈ e :: d.E → q ≠ 70) : d.R e W base (fun k => ok k ∧ k ≠ g) v xs := by
  obtain ⟨hb, hg⟩ := h
  exact Kd.R_types ho hb ht
theorem IsS70.own_ne {w0 W : World} {g : Nat} {f0 : ByteArray} {f1 : Int} {α : Type} {d : Kd α} {e : Nat} {base : Nat} {ok : Nat → Prop} {v : Value} {xs : List α} (h : IsS70 w0 W g f0 f1) (ho : d.R e W base ok v xs) (ht : e ≠ 70) : some g ≠ v.ownBlock := by
  obtain ⟨hb, hg⟩ := h
  exact Kd.R_ne ho hb ht
theorem IsS70.apartQ {w0 W : World} {g : Nat} {f0 : ByteArray} {f1 : Int} {α : Type} {d : Kd α} {e : Nat} {base : Nat} {ok : Nat → Prop} {v : Value} {xs : List α} (h : IsS70 w0 W g f0 f1) (ho : d.Q e W base ok v xs) (ht : ∀ q, q ∈ e :: d.E → q ≠ 70) : d.Q e W base (fun k => ok k ∧ k ≠ g) v xs := by
  obtain ⟨hb, hg⟩ := h
  exact Kd.Q_types ho hb ht
theorem IsS70.own_neQ {w0 W : World} {g : Nat} {f0 : ByteArray} {f1 : Int} {α : Type} {d : Kd α} {e : Nat} {base : Nat} {ok : Nat → Prop} {v : Value} {xs : List α} (h : IsS70 w0 W g f0 f1) (ho : d.Q e W base ok v xs) (ht : e ≠ 70) : some g ≠ v.ownBlock := by
  obtain ⟨hb, hg⟩ := h
  exact Kd.Q_ne ho hb ht
theorem IsS70.apartS {w0 W : World} {g : Nat} {f0 : ByteArray} {f1 : Int} {α : Type} {d : Kd α} {e : Nat} {base : Nat} {ok : Nat → Prop} {v : Value} {xs : List α} (h : IsS70 w0 W g f0 f1) (ho : d.S e W base ok v xs) (ht : ∀ q, q ∈ e :: d.E → q ≠ 70) : d.S e W base (fun k => ok k ∧ k ≠ g) v xs := by
  obtain ⟨hb, hg⟩ := h
  exact Kd.S_types ho hb ht
theorem IsS70.own_neS {w0 W : World} {g : Nat} {f0 : ByteArray} {f1 : Int} {α : Type} {d : Kd α} {e : Nat} {base : Nat} {ok : Nat → Prop} {v : Value} {xs : List α} (h : IsS70 w0 W g f0 f1) (ho : d.S e W base ok v xs) (ht : e ≠ 70) : some g ≠ v.ownBlock := by
  obtain ⟨hb, hg⟩ := h
  exact Kd.S_ne ho hb ht
theorem IsS70.lt {w0 W : World} {g : Nat} {f0 : ByteArray} {f1 : Int} (h : IsS70 w0 W g f0 f1) : g < W.heap.size := by
  obtain ⟨hb, hg⟩ := h
  exact blk_lt hb
theorem IsS70.ge {w0 W : World} {g : Nat} {f0 : ByteArray} {f1 : Int} (h : IsS70 w0 W g f0 f1) : w0.heap.size ≤ g := by
  obtain ⟨hb, hg⟩ := h
  exact hg
theorem IsS70.ne_blk {w0 W : World} {g : Nat} {f0 : ByteArray} {f1 : Int} {a : Nat} {cs : Array Value} {t : TypeId} {fr : Nat × Nat} (h : IsS70 w0 W g f0 f1) (hb2 : W.heap[a]? = some (.cells cs t fr)) (ht : t ≠ 70) : g ≠ a := by
  obtain ⟨hb, hg⟩ := h
  rintro rfl
  rw [hb] at hb2
  injection hb2 with hb2
  injection hb2 with _ ht2
  exact ht ht2.symm
theorem IsS70.far {w0 W : World} {g : Nat} {f0 : ByteArray} {f1 : Int} {p : Addr} (h : IsS70 w0 W g f0 f1) (hne : g ≠ p.block) (u : Value) : IsS70 w0 (W.setCell p u) g f0 f1 := by
  obtain ⟨hb, hg⟩ := h
  exact ⟨blk_far hb hne u, hg⟩
theorem cellS70_0 {W : World} {g : Nat} {f0 : ByteArray} {f1 : Int} (h : W.heap[g]? = some (.cells #[.string f0, .int .i64 f1] 70 (0, 0))) : W.cell? ⟨g, 0, none⟩ = some (.string f0) := (blk_cell h 0).trans rfl
theorem IsS70.set_0 {w0 W : World} {g : Nat} {f0 : ByteArray} {f1 : Int} (h : IsS70 w0 W g f0 f1) (x : ByteArray) : IsS70 w0 (W.setCell ⟨g, 0, none⟩ (.string x)) g x f1 := by
  obtain ⟨hb, hg⟩ := h
  exact ⟨by simpa using blk_set hb 0 (.string x), hg⟩
theorem cellS70_1 {W : World} {g : Nat} {f0 : ByteArray} {f1 : Int} (h : W.heap[g]? = some (.cells #[.string f0, .int .i64 f1] 70 (0, 0))) : W.cell? ⟨g, 1, none⟩ = some (.int .i64 f1) := (blk_cell h 1).trans rfl
theorem IsS70.set_1 {w0 W : World} {g : Nat} {f0 : ByteArray} {f1 : Int} (h : IsS70 w0 W g f0 f1) (x : Int) : IsS70 w0 (W.setCell ⟨g, 1, none⟩ (.int .i64 x)) g f0 x := by
  obtain ⟨hb, hg⟩ := h
  exact ⟨by simpa using blk_set hb 1 (.int .i64 x), hg⟩
theorem IsS70.new (w0 W : World) (f0 : ByteArray) (f1 : Int) (hB : Below w0.heap.size w0 W) : IsS70 w0 (W.alloc (.cells #[.string f0, .int .i64 f1] 70)) W.heap.size f0 f1 := ⟨by simpa using heap_alloc_new W _, hB.size⟩

/-! ### pack_Read: function 23 -/
def pack_Read.f (a0 : ByteArray) : Option (ByteArray × Int) := some (a0, 0)
set_option maxHeartbeats 8000000 in
set_option maxRecDepth 100000 in
theorem pack_Read.calls (a0 : ByteArray) (r1 : ByteArray) (r2 : Int) (w0 w : World) (hB : Below w0.heap.size w0 w) (h : pack_Read.f a0 = some (r1, r2)) :
    Calls Try.prog 23 #[.string a0] w fun e w' => ∃ g_ : Nat, e = .returned (.pointer (some ⟨g_, 0, none⟩)) ∧ IsS70 w0 w' g_ r1 r2 ∧ Below w0.heap.size w0 w' ∧ Below w.heap.size w w' := by
  have hu70 := Try.underlying70
  have HBW := Aside0.mk (Below.refl w.heap.size w)
  have HW0 := Aside0.mk hB.size
  have HB := Aside0.mk hB
  clear hB
  have H : (some (a0, 0)) = some (r1, r2) := h
  clear h
  simp only [Option.some.injEq, Prod.mk.injEq] at H
  obtain ⟨rfl, rfl⟩ := H
  go_enter Try.func23, Try.ntmps23
  go_wp2_with (first | ((with_reducible refine gate_dst (N := 5) rfl ?_); refine box_event ?hg (N := 5) ?hd (cs := #[.string a0, .int .i64 0]) (t := 70) ?hr ?_; (case hd => rfl); (case hg => rfl); (case hr => first | (go_simp; done) | (go_simp; rfl)); intro gb129 hg w2 hbox hb; have n0_ := Aside0.mk (below_step HBW.out hb); have n1_ := Aside0.mk (below_step (by repeat (first | (with_reducible first | exact HB.out | apply below_alloc | apply pw_below_drewN | apply below_drew1) | exact HB.out)) hb); have n2_ := Aside0.mk (hbox); have n3_ := Aside0.mk ((by rw [hg]; exact (below_size (by repeat (first | (with_reducible first | exact HBW.out | apply below_alloc | apply pw_below_drewN | apply below_drew1) | exact HBW.out))) : w.heap.size ≤ gb129)); have n4_ := Aside0.mk ((Nat.le_trans HW0.out (by rw [hg]; exact (below_size (by repeat (first | (with_reducible first | exact HBW.out | apply below_alloc | apply pw_below_drewN | apply below_drew1) | exact HBW.out))) : w.heap.size ≤ gb129) : w0.heap.size ≤ gb129)); clear HBW; clear HB; have HBW := n0_; have HB := n1_; have BK129 := n2_; have GW129 := n3_; have GE129 := n4_; clear n0_ n1_ n2_ n3_ n4_; clear hb hbox hg))
  go_ret
  exact ⟨_, rfl, (show IsS70 w0 _ gb129 a0 0 from ⟨by (with_reducible repeat (first | refine blk_drewN ?_ _ | refine blk_drew ?_ | refine blk_alloc ?_ _)); exact BK129.out, GE129.out⟩), by repeat (first | (with_reducible first | exact HB.out | apply below_alloc | apply pw_below_drewN | apply below_drew1 | refine below_set ?_ GE129.out) | exact HB.out), by repeat (first | (with_reducible first | exact HBW.out | apply below_alloc | apply pw_below_drewN | apply below_drew1 | refine below_set ?_ GW129.out) | exact HBW.out)⟩

/-! ### pack_Reader_Number: function 24 -/
def pack_Reader_Number.l0 : Nat → Int → Int → ByteArray → Int → Option (Int × Int × ByteArray × Int)
  | 0, _, _, _, _ => none
  | k + 1, x4, x5, x1000, x1001 => if x5 < (x1000.size : Int) then (if (wrap64 (7 * (wrap64 (x5 - x1001)))) > 49 then (some (0, 21, x1000, x1001)) else (if 0 ≤ x5 then (if 0 ≤ (IntKind.u64.wrap (wrap64 (7 * (wrap64 (x5 - x1001))))) then (if (bt x1000 x5) > 127 then (pack_Reader_Number.l0 k (Go.bits .or .i64 x4 (shl .i64 (wrap64 (Go.bits .and .u8 (bt x1000 x5) 127)) (IntKind.u64.wrap (wrap64 (7 * (wrap64 (x5 - x1001))))))) (wrap64 (x5 + 1)) x1000 x1001) else (if (bt x1000 x5) = 0 then (if (wrap64 (7 * (wrap64 (x5 - x1001)))) > 0 then (some (0, 21, x1000, x1001)) else (some (Go.bits .or .i64 x4 (shl .i64 (wrap64 (Go.bits .and .u8 (bt x1000 x5) 127)) (IntKind.u64.wrap (wrap64 (7 * (wrap64 (x5 - x1001)))))), 0, x1000, wrap64 (x5 + 1)))) else (some (Go.bits .or .i64 x4 (shl .i64 (wrap64 (Go.bits .and .u8 (bt x1000 x5) 127)) (IntKind.u64.wrap (wrap64 (7 * (wrap64 (x5 - x1001)))))), 0, x1000, wrap64 (x5 + 1))))) else (none)) else (none))) else (some (0, 20, x1000, x1001))
def pack_Reader_Number.f (k : Nat) (s0_0 : ByteArray) (s0_1 : Int) : Option (Int × Int × ByteArray × Int) := pack_Reader_Number.l0 k 0 s0_1 s0_0 s0_1
theorem pack_Reader_Number.mono_l : ∀ k, (∀ y0 y1 y2 y3, LeO (pack_Reader_Number.l0 k y0 y1 y2 y3) (pack_Reader_Number.l0 (k + 1) y0 y1 y2 y3))
  | 0 => fun _ _ _ _ r h => by simp [pack_Reader_Number.l0] at h
  | k + 1 => by
    have ih0 := pack_Reader_Number.mono_l k
    · intro y0 y1 y2 y3
      unfold pack_Reader_Number.l0
      repeat' first
      | (with_reducible exact ih0 _ _ _ _)
      | (with_reducible exact LeO.refl _)
      | (with_reducible exact LeO.none _)
      | (with_reducible refine LeO.ite ?_ ?_)
      | (with_reducible refine LeO.bind ?_ (fun _ => ?_))
      | exact ih0 _ _ _ _
      | exact LeO.none _
      | refine LeO.ite ?_ ?_
      | refine LeO.bind ?_ (fun _ => ?_)
theorem pack_Reader_Number.mono : ∀ a0 a1 k, LeO (pack_Reader_Number.f k a0 a1) (pack_Reader_Number.f (k + 1) a0 a1) := by
  intro a0 a1 k
  have ih0 := pack_Reader_Number.mono_l k
  unfold pack_Reader_Number.f
  repeat' first
      | (with_reducible exact ih0 _ _ _ _)
      | (with_reducible exact LeO.refl _)
      | (with_reducible exact LeO.none _)
      | (with_reducible refine LeO.ite ?_ ?_)
      | (with_reducible refine LeO.bind ?_ (fun _ => ?_))
      | exact ih0 _ _ _ _
      | exact LeO.none _
      | refine LeO.ite ?_ ?_
      | refine LeO.bind ?_ (fun _ => ?_)
set_option maxHeartbeats 8000000 in
set_option maxRecDepth 100000 in
theorem pack_Reader_Number.calls (k : Nat) (g : Nat) (s0_0 : ByteArray) (s0_1 : Int) (r1 : Int) (r2 : Int) (r3 : ByteArray) (r4 : Int) (w0 w : World) (hI : IsS70 w0 w g s0_0 s0_1) (hB : Below w0.heap.size w0 w) (h : pack_Reader_Number.f k s0_0 s0_1 = some (r1, r2, r3, r4)) :
    Calls Try.prog 24 #[.pointer (some ⟨g, 0, none⟩)] w fun e w' => e = .returned (.tuple #[.int .i64 r1, .int .i64 r2]) ∧ IsS70 w0 w' g r3 r4 ∧ Below w0.heap.size w0 w' ∧ KeepBut w w' g none := by
  have HI0 := Aside0.mk hI
  have HK := Aside0.mk (KeepBut.refl w g none)
  have HL := Aside0.mk hB.size
  clear hI
  have HW0 := Aside0.mk hB.size
  have HB := Aside0.mk hB
  clear hB
  have H : (pack_Reader_Number.l0 k 0 s0_1 s0_0 s0_1) = some (r1, r2, r3, r4) := h
  clear h
  have H' := Aside0.mk H
  clear H
  obtain ⟨HGz2, hgz2⟩ := HI0.out
  have hcz2_0 := cellS70_0 HGz2
  have hcz2_1 := cellS70_1 HGz2
  have hfz2_0 := blk_frozen HGz2 0
  have hfz2_1 := blk_frozen HGz2 1
  clear HGz2 hgz2
  go_enter Try.func24, Try.ntmps24
  go_wp2
  go_loopg [4, 5] k (fun kq v4 v5 w' => ∃ (x4_1 : Int) (x5_1 : Int) (x1001_1 : Int), v4 = .int .i64 x4_1 ∧ v5 = .int .i64 x5_1 ∧ Aside0 (pack_Reader_Number.l0 kq x4_1 x5_1 s0_0 x1001_1 = some (r1, r2, r3, r4)) ∧ Aside0 (kq ≤ k) ∧ Aside0 (IsS70 w0 w' g s0_0 x1001_1) ∧ Aside0 (KeepBut w w' g none) ∧ Aside0 (Below w0.heap.size w0 w'))
  case atStart => exact ⟨(0), (s0_1), (s0_1), (by first | rfl | (simp; done) | (simp [*]; done)), (by first | rfl | (simp; done) | (simp [*]; done)), H', ⟨Nat.le_refl _⟩, ⟨by repeat (first | (with_reducible first | exact HI0.out | apply IsS70.alloc | apply IsS70.drewN | apply IsS70.drew | apply IsS70.set_0 | apply IsS70.set_1) | exact HI0.out)⟩, ⟨by repeat (first | (with_reducible first | exact HK.out | apply KeepBut.set_ | apply keep_drewN | apply keep_drew | apply keep_alloc) | exact HK.out)⟩, ⟨by repeat (first | (with_reducible first | exact HB.out | apply below_alloc | apply pw_below_drewN | apply below_drew1 | refine below_set ?_ (IsS70.ge HI0.out)) | exact HB.out)⟩⟩
  case round =>
    clear H'
    try clear c2
    try clear p2
    try clear hcz2_0
    try clear hcz2_1
    try clear hfz2_0
    try clear hfz2_1
    obtain ⟨x4_1, x5_1, x1001_1, rfl, rfl, HA, HK1, HI0, HK, HB⟩ := hrel
    cases gk with
    | zero => exact absurd HA.out (by simp [pack_Reader_Number.l0])
    | succ k1 =>
      have H := HA.out
      clear HA
      simp only [pack_Reader_Number.l0] at H
      by_cases c3 : x5_1 < (s0_0.size : Int)
      · rw [if_pos c3] at H
        have c3b0 : decide (x5_1 < (s0_0.size : Int)) = true := decide_eq_true c3
        clear c3
        by_cases c4 : (wrap64 (7 * (wrap64 (x5_1 - x1001_1)))) > 49
        · rw [if_pos c4] at H
          have c4b0 : decide (49 < (wrap64 (7 * (wrap64 (x5_1 - x1001_1))))) = true := decide_eq_true c4
          clear c4
          simp only [Option.some.injEq, Prod.mk.injEq] at H
          obtain ⟨rfl, rfl, rfl, rfl⟩ := H
          obtain ⟨HGz5, hgz5⟩ := HI0.out
          have hcz5_0 := cellS70_0 HGz5
          have hcz5_1 := cellS70_1 HGz5
          have hfz5_0 := blk_frozen HGz5 0
          have hfz5_1 := blk_frozen HGz5 1
          clear HGz5 hgz5
          go_wp2
          go_ret2
          exact ⟨by first | rfl | (simp [errW_none, errW_some] <;> rfl) | (simp [*, errW_none, errW_some] <;> rfl), by repeat (first | (with_reducible first | exact HI0.out | apply IsS70.alloc | apply IsS70.drewN | apply IsS70.drew | apply IsS70.set_0 | apply IsS70.set_1) | exact HI0.out), by repeat (first | (with_reducible first | exact HB.out | apply below_alloc | apply pw_below_drewN | apply below_drew1 | refine below_set ?_ (IsS70.ge HI0.out)) | exact HB.out), by repeat (first | (with_reducible first | exact HK.out | apply KeepBut.set_ | apply keep_drewN | apply keep_drew | apply keep_alloc) | exact HK.out)⟩
        · rw [if_neg c4] at H
          have c4b0 : decide (49 < (wrap64 (7 * (wrap64 (x5_1 - x1001_1))))) = false := decide_eq_false c4
          clear c4
          by_cases c6 : 0 ≤ x5_1
          · rw [if_pos c6] at H
            have c6b0 : decide (0 ≤ x5_1) = true := decide_eq_true c6
            clear c6
            obtain ⟨ji8, hji8⟩ : ∃ j_ : Int, (IntKind.u64.wrap (wrap64 (7 * (wrap64 (x5_1 - x1001_1))))) = j_ := ⟨_, rfl⟩
            replace H : (if 0 ≤ (ji8) then (if (bt s0_0 x5_1) > 127 then (pack_Reader_Number.l0 k1 (Go.bits .or .i64 x4_1 (shl .i64 (wrap64 (Go.bits .and .u8 (bt s0_0 x5_1) 127)) (ji8))) (wrap64 (x5_1 + 1)) s0_0 x1001_1) else (if (bt s0_0 x5_1) = 0 then (if (wrap64 (7 * (wrap64 (x5_1 - x1001_1)))) > 0 then (some (0, 21, s0_0, x1001_1)) else (some (Go.bits .or .i64 x4_1 (shl .i64 (wrap64 (Go.bits .and .u8 (bt s0_0 x5_1) 127)) (ji8)), 0, s0_0, wrap64 (x5_1 + 1)))) else (some (Go.bits .or .i64 x4_1 (shl .i64 (wrap64 (Go.bits .and .u8 (bt s0_0 x5_1) 127)) (ji8)), 0, s0_0, wrap64 (x5_1 + 1))))) else (none)) = some (r1, r2, r3, r4) := by first | (rw [hji8] at H; exact H) | (simp only [hji8] at H ⊢; exact H)
            by_cases c9 : 0 ≤ (ji8)
            · rw [if_pos c9] at H
              have c9b0 := eq_true c9
              have c9b1 : decide (0 ≤ (ji8)) = true := decide_eq_true c9
              clear c9
              obtain ⟨ji10, hji10⟩ : ∃ j_ : Int, (shl .i64 (wrap64 (Go.bits .and .u8 (bt s0_0 x5_1) 127)) (ji8)) = j_ := ⟨_, rfl⟩
              replace H : (if (bt s0_0 x5_1) > 127 then (pack_Reader_Number.l0 k1 (Go.bits .or .i64 x4_1 (ji10)) (wrap64 (x5_1 + 1)) s0_0 x1001_1) else (if (bt s0_0 x5_1) = 0 then (if (wrap64 (7 * (wrap64 (x5_1 - x1001_1)))) > 0 then (some (0, 21, s0_0, x1001_1)) else (some (Go.bits .or .i64 x4_1 (ji10), 0, s0_0, wrap64 (x5_1 + 1)))) else (some (Go.bits .or .i64 x4_1 (ji10), 0, s0_0, wrap64 (x5_1 + 1))))) = some (r1, r2, r3, r4) := by first | (rw [hji10] at H; exact H) | (simp only [hji10] at H ⊢; exact H)
              have hji10_ : (IntKind.i64.wrap ((wrap64 (Go.bits .and .u8 (bt s0_0 x5_1) 127)) * 2 ^ min (ji8).toNat 64)) = ji10 := hji10
              have hji10z : (ji8) ≤ 64 → (IntKind.i64.wrap ((wrap64 (Go.bits .and .u8 (bt s0_0 x5_1) 127)) * 2 ^ (ji8).toNat)) = ji10 := shl_small hji10
              have hji10y : (wrap64 ((wrap64 (Go.bits .and .u8 (bt s0_0 x5_1) 127)) * 2 ^ min (ji8).toNat 64)) = ji10 := (i64_w _).symm.trans hji10_
              have hji10x : (ji8) ≤ 64 → (wrap64 ((wrap64 (Go.bits .and .u8 (bt s0_0 x5_1) 127)) * 2 ^ (ji8).toNat)) = ji10 := fun h_ => (i64_w _).symm.trans (hji10z h_)
              by_cases c11 : (bt s0_0 x5_1) > 127
              · rw [if_pos c11] at H
                have c11b0 : decide (127 < (bt s0_0 x5_1)) = true := decide_eq_true c11
                clear c11
                have H' := Aside0.mk H
                clear H
                obtain ⟨HGz12, hgz12⟩ := HI0.out
                have hcz12_0 := cellS70_0 HGz12
                have hcz12_1 := cellS70_1 HGz12
                have hfz12_0 := blk_frozen HGz12 0
                have hfz12_1 := blk_frozen HGz12 1
                clear HGz12 hgz12
                have p7 : 0 ≤ (x5_1 : Int) := of_decide_eq_true (by first | (with_reducible assumption) | assumption)
                have q7 : x5_1 < (s0_0.size : Int) := of_decide_eq_true (by first | (with_reducible assumption) | assumption)
                have hx7 := bt_at s0_0 x5_1
                replace p7 := eq_true p7
                replace q7 := eq_true q7
                go_wp2
                go_roundg k1
                case measure => have := HK1.out; omega
                case rel => exact ⟨(Go.bits .or .i64 x4_1 (ji10)), (wrap64 (x5_1 + 1)), (x1001_1), (by first | rfl | (simp; done) | (simp only [← hji10] <;> (first | rfl | simp)) | (simp [*]; done)), (by first | rfl | (simp; done) | (simp [*]; done)), H', ⟨by have := HK1.out; omega⟩, ⟨by repeat (first | (with_reducible first | exact HI0.out | apply IsS70.alloc | apply IsS70.drewN | apply IsS70.drew | apply IsS70.set_0 | apply IsS70.set_1) | exact HI0.out)⟩, ⟨by repeat (first | (with_reducible first | exact HK.out | apply KeepBut.set_ | apply keep_drewN | apply keep_drew | apply keep_alloc) | exact HK.out)⟩, ⟨by repeat (first | (with_reducible first | exact HB.out | apply below_alloc | apply pw_below_drewN | apply below_drew1 | refine below_set ?_ (IsS70.ge HI0.out)) | exact HB.out)⟩⟩
              · rw [if_neg c11] at H
                have c11b0 : decide (127 < (bt s0_0 x5_1)) = false := decide_eq_false c11
                clear c11
                by_cases c13 : (bt s0_0 x5_1) = 0
                · rw [if_pos c13] at H
                  have c13b0 : ((bt s0_0 x5_1) == 0) = true := beq_iff_eq.mpr c13
                  have c13b1 : ((bt s0_0 x5_1) != 0) = false := bne_eq_false_iff_eq.mpr c13
                  clear c13
                  by_cases c14 : (wrap64 (7 * (wrap64 (x5_1 - x1001_1)))) > 0
                  · rw [if_pos c14] at H
                    have c14b0 : decide (0 < (wrap64 (7 * (wrap64 (x5_1 - x1001_1))))) = true := decide_eq_true c14
                    clear c14
                    simp only [Option.some.injEq, Prod.mk.injEq] at H
                    obtain ⟨rfl, rfl, rfl, rfl⟩ := H
                    obtain ⟨HGz15, hgz15⟩ := HI0.out
                    have hcz15_0 := cellS70_0 HGz15
                    have hcz15_1 := cellS70_1 HGz15
                    have hfz15_0 := blk_frozen HGz15 0
                    have hfz15_1 := blk_frozen HGz15 1
                    clear HGz15 hgz15
                    have p7 : 0 ≤ (x5_1 : Int) := of_decide_eq_true (by first | (with_reducible assumption) | assumption)
                    have q7 : x5_1 < (s0_0.size : Int) := of_decide_eq_true (by first | (with_reducible assumption) | assumption)
                    have hx7 := bt_at s0_0 x5_1
                    replace p7 := eq_true p7
                    replace q7 := eq_true q7
                    go_wp2
                    go_ret2
                    exact ⟨by first | rfl | (simp [errW_none, errW_some] <;> rfl) | (simp only [← hji8, ← hji10]; first | rfl | (simp [errW_none, errW_some] <;> rfl)) | (simp [*, errW_none, errW_some] <;> rfl), by repeat (first | (with_reducible first | exact HI0.out | apply IsS70.alloc | apply IsS70.drewN | apply IsS70.drew | apply IsS70.set_0 | apply IsS70.set_1) | exact HI0.out), by repeat (first | (with_reducible first | exact HB.out | apply below_alloc | apply pw_below_drewN | apply below_drew1 | refine below_set ?_ (IsS70.ge HI0.out)) | exact HB.out), by repeat (first | (with_reducible first | exact HK.out | apply KeepBut.set_ | apply keep_drewN | apply keep_drew | apply keep_alloc) | exact HK.out)⟩
                  · rw [if_neg c14] at H
                    have c14b0 : decide (0 < (wrap64 (7 * (wrap64 (x5_1 - x1001_1))))) = false := decide_eq_false c14
                    clear c14
                    simp only [Option.some.injEq, Prod.mk.injEq] at H
                    obtain ⟨rfl, rfl, rfl, rfl⟩ := H
                    obtain ⟨HGz16, hgz16⟩ := HI0.out
                    have hcz16_0 := cellS70_0 HGz16
                    have hcz16_1 := cellS70_1 HGz16
                    have hfz16_0 := blk_frozen HGz16 0
                    have hfz16_1 := blk_frozen HGz16 1
                    clear HGz16 hgz16
                    have p7 : 0 ≤ (x5_1 : Int) := of_decide_eq_true (by first | (with_reducible assumption) | assumption)
                    have q7 : x5_1 < (s0_0.size : Int) := of_decide_eq_true (by first | (with_reducible assumption) | assumption)
                    have hx7 := bt_at s0_0 x5_1
                    replace p7 := eq_true p7
                    replace q7 := eq_true q7
                    go_wp2
                    go_ret2
                    exact ⟨by first | rfl | (simp [errW_none, errW_some] <;> rfl) | (simp only [← hji8, ← hji10]; first | rfl | (simp [errW_none, errW_some] <;> rfl)) | (simp [*, errW_none, errW_some] <;> rfl), by repeat (first | (with_reducible first | exact HI0.out | apply IsS70.alloc | apply IsS70.drewN | apply IsS70.drew | apply IsS70.set_0 | apply IsS70.set_1) | exact HI0.out), by repeat (first | (with_reducible first | exact HB.out | apply below_alloc | apply pw_below_drewN | apply below_drew1 | refine below_set ?_ (IsS70.ge HI0.out)) | exact HB.out), by repeat (first | (with_reducible first | exact HK.out | apply KeepBut.set_ | apply keep_drewN | apply keep_drew | apply keep_alloc) | exact HK.out)⟩
                · rw [if_neg c13] at H
                  have c13b0 : ((bt s0_0 x5_1) == 0) = false := beq_eq_false_iff_ne.mpr c13
                  have c13b1 : ((bt s0_0 x5_1) != 0) = true := bne_iff_ne.mpr c13
                  simp only [Option.some.injEq, Prod.mk.injEq] at H
                  obtain ⟨rfl, rfl, rfl, rfl⟩ := H
                  obtain ⟨HGz17, hgz17⟩ := HI0.out
                  have hcz17_0 := cellS70_0 HGz17
                  have hcz17_1 := cellS70_1 HGz17
                  have hfz17_0 := blk_frozen HGz17 0
                  have hfz17_1 := blk_frozen HGz17 1
                  clear HGz17 hgz17
                  have p7 : 0 ≤ (x5_1 : Int) := of_decide_eq_true (by first | (with_reducible assumption) | assumption)
                  have q7 : x5_1 < (s0_0.size : Int) := of_decide_eq_true (by first | (with_reducible assumption) | assumption)
                  have hx7 := bt_at s0_0 x5_1
                  replace p7 := eq_true p7
                  replace q7 := eq_true q7
                  go_wp2
                  go_ret2
                  exact ⟨by first | rfl | (simp [errW_none, errW_some] <;> rfl) | (simp only [← hji8, ← hji10]; first | rfl | (simp [errW_none, errW_some] <;> rfl)) | (simp [*, errW_none, errW_some] <;> rfl), by repeat (first | (with_reducible first | exact HI0.out | apply IsS70.alloc | apply IsS70.drewN | apply IsS70.drew | apply IsS70.set_0 | apply IsS70.set_1) | exact HI0.out), by repeat (first | (with_reducible first | exact HB.out | apply below_alloc | apply pw_below_drewN | apply below_drew1 | refine below_set ?_ (IsS70.ge HI0.out)) | exact HB.out), by repeat (first | (with_reducible first | exact HK.out | apply KeepBut.set_ | apply keep_drewN | apply keep_drew | apply keep_alloc) | exact HK.out)⟩
            · rw [if_neg c9] at H
              exact absurd H (by simp)
          · rw [if_neg c6] at H
            exact absurd H (by simp)
      · rw [if_neg c3] at H
        have c3b0 : decide (x5_1 < (s0_0.size : Int)) = false := decide_eq_false c3
        clear c3
        simp only [Option.some.injEq, Prod.mk.injEq] at H
        obtain ⟨rfl, rfl, rfl, rfl⟩ := H
        obtain ⟨HGz18, hgz18⟩ := HI0.out
        have hcz18_0 := cellS70_0 HGz18
        have hcz18_1 := cellS70_1 HGz18
        have hfz18_0 := blk_frozen HGz18 0
        have hfz18_1 := blk_frozen HGz18 1
        clear HGz18 hgz18
        go_wp2
        go_ret2
        exact ⟨by first | rfl | (simp [errW_none, errW_some] <;> rfl) | (simp [*, errW_none, errW_some] <;> rfl), by repeat (first | (with_reducible first | exact HI0.out | apply IsS70.alloc | apply IsS70.drewN | apply IsS70.drew | apply IsS70.set_0 | apply IsS70.set_1) | exact HI0.out), by repeat (first | (with_reducible first | exact HB.out | apply below_alloc | apply pw_below_drewN | apply below_drew1 | refine below_set ?_ (IsS70.ge HI0.out)) | exact HB.out), by repeat (first | (with_reducible first | exact HK.out | apply KeepBut.set_ | apply keep_drewN | apply keep_drew | apply keep_alloc) | exact HK.out)⟩

-- NOT PRINTED: function 36 (pack_Reader_Text_1)

/-! ### pack_Reader_Text: function 25 (by hand) -/
set_option maxRecDepth 100000 in
theorem pack_Reader_Text.d_ok (a b c : Addr) (u : FrameMode) (w : World) (hc : w.cell? a = some (.int .i64 0)) :
    CallsD Try.prog 36 #[.pointer (some a), .pointer (some b), .pointer (some c)] u w fun e u' w' => u' = u ∧ (e = .returned (.tuple #[]) ∧ w' = w) := by
  go_enter_d Try.func36, Try.ntmps36
  go_wp2
  go_end0
  exact ⟨rfl, rfl⟩
set_option maxRecDepth 100000 in
theorem pack_Reader_Text.d_bad (a b c : Addr) (g : Nat) (f x n : Int) (u : FrameMode) (w : World) (hn : (n == 0) = false) (hc : w.cell? a = some (.int .i64 n)) (hb : w.cell? b = some (.int .i64 f)) (hr : w.cell? c = some (.pointer (some ⟨g, 0, none⟩))) (h1 : w.cell? ⟨g, 1, none⟩ = some (.int .i64 x)) (hf : w.frozen? ⟨g, 1, none⟩ = false) :
    CallsD Try.prog 36 #[.pointer (some a), .pointer (some b), .pointer (some c)] u w fun e u' w' => u' = u ∧ (e = .returned (.tuple #[]) ∧ w' = w.setCell ⟨g, 1, none⟩ (.int .i64 f)) := by
  have hn2 : (n != 0) = true := by simpa using hn
  go_enter_d Try.func36, Try.ntmps36
  go_wp2
  go_end0
  exact ⟨rfl, rfl⟩
theorem pack_Reader_Text.num_l0 (s : ByteArray) (a : Nat) (hs : s.size ≤ 140737488355328) : ∀ (l : List UInt8) (j acc : Nat), s.data.toList.drop (a + j) = l → a + j ≤ s.size → j ≤ 8 → acc < 128 ^ j → Ev (fun k => pack_Reader_Number.l0 k (acc : Int) ((a + j : Nat) : Int) s (a : Int)) (((Hw.rnum l j acc).1 : Int), (Hw.rnum l j acc).2.1, s, ((a + (Hw.rnum l j acc).2.2 : Nat) : Int)) := by
  intro l
  induction l with
  | nil =>
    intro j acc hd hle hj ha
    have hl : s.data.toList.length ≤ a + j := List.drop_eq_nil_iff.1 hd
    rw [data_length] at hl
    refine Ev.step (f := fun _ => some (0, 20, s, (a : Int))) (fun k => ?_) (Ev.now _)
    simp only [pack_Reader_Number.l0]
    rw [if_neg (by omega)]
  | cons c r ih =>
    intro j acc hd hle hj ha
    obtain ⟨h1, h2, h3⟩ := Hw.bt_drop hd
    have hc := c.toNat_lt
    have e1 : wrap64 (7 * wrap64 (((a + j : Nat) : Int) - (a : Int))) = 7 * (j : Int) := by rw [Hw.w64 (((a + j : Nat) : Int) - (a : Int)) (by omega) (by omega), Hw.w64 _ (by omega) (by omega)]; omega
    have e2 : IntKind.u64.wrap (7 * (j : Int)) = 7 * (j : Int) := IntWalk.u64_in _ (by omega)
    rw [Hw.rnum]
    by_cases hj8 : 8 ≤ j
    · rw [if_pos hj8]
      refine Ev.step (f := fun _ => some (0, 21, s, (a : Int))) (fun k => ?_) (Ev.now _)
      simp only [pack_Reader_Number.l0]
      rw [if_pos (by omega), e1, if_pos (by omega)]
    · rw [if_neg hj8]
      have e3 := Hw.or_shift acc j c.toNat (by omega) ha (by omega)
      by_cases hc1 : 127 < c.toNat
      · rw [if_pos hc1]
        have ha2 : acc + c.toNat % 128 * 128 ^ j < 128 ^ (j + 1) := by
          have : c.toNat % 128 * 128 ^ j ≤ 127 * 128 ^ j := Nat.mul_le_mul_right _ (by omega)
          rw [Nat.pow_succ]
          omega
        refine Ev.step (fun k => ?_) (ih (j + 1) _ (by rw [← Nat.add_assoc]; exact h3) (by omega) (by omega) ha2)
        simp only [pack_Reader_Number.l0]
        rw [if_pos (by omega), e1, if_neg (by omega), if_pos (by omega), e2, if_pos (by omega), h2, if_pos (by omega), e3, Hw.wnat _ (by omega)]
        rfl
      · rw [if_neg hc1]
        by_cases hc0 : c.toNat = 0 ∧ 0 < j
        · rw [if_pos hc0]
          refine Ev.step (f := fun _ => some (0, 21, s, (a : Int))) (fun k => ?_) (Ev.now _)
          simp only [pack_Reader_Number.l0]
          rw [if_pos (by omega), e1, if_neg (by omega), if_pos (by omega), e2, if_pos (by omega), h2, if_neg (by omega), if_pos (by omega), if_pos (by omega)]
        · rw [if_neg hc0]
          refine Ev.step (f := fun _ => some (((acc + c.toNat % 128 * 128 ^ j : Nat) : Int), 0, s, ((a + (j + 1) : Nat) : Int))) (fun k => ?_) (Ev.now _)
          simp only [pack_Reader_Number.l0]
          rw [if_pos (by omega), e1, if_neg (by omega), if_pos (by omega), e2, if_pos (by omega), h2, if_neg (by omega), e3, Hw.wnat _ (by omega)]
          by_cases hz : (c.toNat : Int) = 0
          · rw [if_pos hz, if_neg (by omega)]
            rfl
          · rw [if_neg hz]
            rfl
theorem pack_Reader_Text.num_ev (s : ByteArray) (a : Nat) (hs : s.size ≤ 140737488355328) (ha : a ≤ s.size) : Ev (fun k => pack_Reader_Number.f k s (a : Int)) (((Hw.rnum (s.data.toList.drop a) 0 0).1 : Int), (Hw.rnum (s.data.toList.drop a) 0 0).2.1, s, ((a + (Hw.rnum (s.data.toList.drop a) 0 0).2.2 : Nat) : Int)) := pack_Reader_Text.num_l0 s a hs _ 0 0 rfl ha (by omega) (by decide)
def pack_Reader_Text.f (k : Nat) (s : ByteArray) (a : Int) : Option (ByteArray × Int × ByteArray × Int) := (pack_Reader_Number.f k s a).bind fun t => if t.2.1 = 0 then (if t.2.2.1 = s ∧ s.size ≤ 9223372036854775807 ∧ 0 ≤ a ∧ 0 ≤ t.2.2.2 ∧ t.2.2.2 ≤ (s.size : Int) ∧ 0 ≤ t.1 then (if t.1 > (s.size : Int) - t.2.2.2 then some (.empty, 20, s, a) else some (s.extract t.2.2.2.toNat (t.2.2.2 + t.1).toNat, 0, s, t.2.2.2 + t.1)) else none) else if t.2.2 = (s, a) then some (.empty, t.2.1, s, a) else none
theorem pack_Reader_Text.extract_list (s : ByteArray) (a b : Nat) : (s.extract a (a + b)) = ⟨((s.data.toList.drop a).take b).toArray⟩ := by
  apply ByteArray.ext
  rw [ByteArray.data_extract]
  apply Array.ext'
  simp
theorem pack_Reader_Text.text_ev (s : ByteArray) (a : Nat) (hs : s.size ≤ 140737488355328) (ha : a ≤ s.size) : Ev (fun k => pack_Reader_Text.f k s (a : Int)) (⟨(Hw.rtext (s.data.toList.drop a)).1.toArray⟩, (Hw.rtext (s.data.toList.drop a)).2.1, s, ((a + (Hw.rtext (s.data.toList.drop a)).2.2 : Nat) : Int)) := by
  have h1 := pack_Reader_Text.num_ev s a hs ha
  have hu := Hw.rnum_used (s.data.toList.drop a) 0 0
  have hl : (s.data.toList.drop a).length = s.size - a := by rw [List.length_drop, data_length]
  unfold Hw.rtext
  generalize hR : Hw.rnum (s.data.toList.drop a) 0 0 = R at *
  obtain ⟨n, e, u⟩ := R
  simp only at *
  rw [hl] at hu ⊢
  refine Ev.bind h1 (Ev.congr (f := fun _ => some _) (fun k => ?_) (Ev.now _))
  simp only
  by_cases he : e = 0
  · rw [if_pos he, if_pos he, if_pos ⟨by trivial, by omega, by omega, by omega, by omega, by omega⟩]
    by_cases hn : s.size - a < u + n
    · rw [if_pos hn, if_pos (by omega)]
      rfl
    · rw [if_neg hn, if_neg (by omega)]
      have e1 : ((a + u : Nat) : Int).toNat = a + u := by omega
      have e2 : (((a + u : Nat) : Int) + (n : Int)).toNat = (a + u) + n := by omega
      rw [e1, e2, pack_Reader_Text.extract_list, List.drop_drop]
      simp only [Nat.add_assoc, Int.natCast_add, Int.add_assoc]
  · rw [if_neg he, if_neg he]
    obtain ⟨h3, h4⟩ := hu.2.1 he
    subst h4
    rw [if_pos (by simp)]
    rfl
set_option maxHeartbeats 2000000 in
set_option maxRecDepth 100000 in
theorem pack_Reader_Text.calls (k : Nat) (g : Nat) (s : ByteArray) (a : Int) (r1 : ByteArray) (r2 : Int) (r3 : ByteArray) (r4 : Int) (w0 w : World) (hI : IsS70 w0 w g s a) (hB : Below w0.heap.size w0 w) (h : pack_Reader_Text.f k s a = some (r1, r2, r3, r4)) :
    Calls Try.prog 25 #[.pointer (some ⟨g, 0, none⟩)] w fun e w' => e = .returned (.tuple #[.string r1, .int .i64 r2]) ∧ IsS70 w0 w' g r3 r4 ∧ Below w0.heap.size w0 w' ∧ KeepBut w w' g none := by
  unfold pack_Reader_Text.f at h
  obtain ⟨⟨n, e, s', a'⟩, hN, h⟩ := Option.bind_eq_some_iff.1 h
  have HN := Aside0.mk (fun W (hI : IsS70 w0 W g s a) (hB : Below w0.heap.size w0 W) => pack_Reader_Number.calls k g s a n e s' a' w0 W hI hB hN)
  have HI := Aside0.mk hI
  have HB := Aside0.mk hB
  have hgl : g < w.heap.size := hI.lt
  have hne0 : ¬ g = w.heap.size := by omega
  have hne1 : ¬ g = w.heap.size + 1 := by omega
  have hne2 : ¬ g = w.heap.size + 1 + 1 := by omega
  have hne3 : ¬ g = w.heap.size + 2 := by omega
  have hg0 : w.cell? ⟨g, 0, none⟩ = some (.string s) := cellS70_0 hI.1
  have hg1 : w.cell? ⟨g, 1, none⟩ = some (.int .i64 a) := cellS70_1 hI.1
  have hmf : ∀ (fn : Fn) (first cap : Array Value) (w : World), (Instr.makeFunc fn first cap).run Try.prog w = .ok (.func fn first cap) w := fun _ _ _ _ => rfl
  have hgA := fun o1 o2 => Hw.cell_al (Hw.cell_al hg1 o1) o2
  clear hI hB hN hgl
  simp only at h
  by_cases he : e = 0
  · rw [if_pos he] at h
    subst he
    by_cases hc : s' = s ∧ s.size ≤ 9223372036854775807 ∧ 0 ≤ a ∧ 0 ≤ a' ∧ a' ≤ (s.size : Int) ∧ 0 ≤ n
    case neg => rw [if_neg hc] at h; cases h
    rw [if_pos hc] at h
    obtain ⟨rfl, hc1, hc2, hc3, hc4, hc5⟩ := hc
    by_cases hn : n > (s'.size : Int) - a'
    · rw [if_pos hn] at h
      simp only [Option.some.injEq, Prod.mk.injEq] at h
      obtain ⟨rfl, rfl, rfl, rfl⟩ := h
      have hnb : decide ((s'.size : Int) - a' < n) = true := decide_eq_true hn
      go_enter_defers Try.func25, Try.ntmps25
      go_wp2_with (go_at_call 24; refine (HN.out _ (by repeat' (first | exact HI.out | apply IsS70.alloc)) (by repeat' (first | exact HB.out | apply below_alloc))).mono ?_; rintro e4 w4 ⟨rfl, hI4, hB4, hK4⟩; have I4 := Aside0.mk hI4; have B4 := Aside0.mk hB4; have K4 := Aside0.mk hK4; have b0 := hK4.blk (Hw.blk_al (Hw.blk_al (Hw.blk_nw w _) _) _) (fun h => hne0 h.symm) (by simp); have b1 := hK4.blk (Hw.blk_al (Hw.blk_nw1 w _ _) _) (fun h => hne1 h.symm) (by simp); have b2 := hK4.blk (Hw.blk_nw2 w _ _ _) (fun h => hne2 h.symm) (by simp); have c0 := blk_cell b0 0; have c1 := blk_cell b1 0; have c2 := blk_cell b2 0; have f1 := blk_frozen b1 0; have c3 := cellS70_0 hI4.1; have c4 := cellS70_1 hI4.1; have f4 := blk_frozen hI4.1 1; simp only [List.getElem?_toArray, List.getElem?_cons_zero] at c0 c1 c2; clear b0 b1 b2 hI4 hB4 hK4)
      go_quiet (fail)
      go_wp2
      refine leaves_cons (f := 36) (args := #[.pointer (some ⟨w.heap.size + 1, 0, none⟩), .pointer (some ⟨w.heap.size + 1 + 1, 0, none⟩), .pointer (some ⟨w.heap.size, 0, none⟩)]) (by simp) (by simp [go_sem]) ?_
      refine (pack_Reader_Text.d_bad _ _ _ g a a' 20 .returning _ (by decide) ?h1 ?h2 ?h3 ?h4 ?h5).mono ?_
      case h1 => simp [go_sem, c1]
      case h2 => simp [go_sem, c2]
      case h3 => simp [go_sem, c0]
      case h4 => simp [go_sem, c4, hne1]
      case h5 => simp [go_sem, f4]
      rintro e5 u' w5 ⟨rfl, rfl, rfl⟩
      refine ⟨.tuple #[.string .empty, .int .i64 20], by simp [results, Try.results25, go_sem, hne1, c1, f1]; rfl, rfl, ?_, ?_, ?_⟩
      · refine IsS70.set_1 (f1 := a') ?_ _
        repeat' (first | exact I4.out | refine IsS70.far ?_ (by simpa using hne1) _ | apply IsS70.drewN | apply IsS70.drew)
      · have hg := HI.out.ge
        have hs := HB.out.size
        repeat' (first | exact B4.out | refine Below.setCell ?_ (by simp only; omega) _ | refine pw_below_drewN ?_ _ | apply Below.drew)
      · repeat' (first | exact Hw.keep_al (Hw.keep_al (Hw.keep_al K4.out)) | apply KeepBut.set_ | refine Hw.keep_new ?_ (by simp only; omega) _ | apply keep_drewN | apply keep_drew)
    · rw [if_neg hn] at h
      simp only [Option.some.injEq, Prod.mk.injEq] at h
      obtain ⟨rfl, rfl, rfl, rfl⟩ := h
      have hnb : decide ((s'.size : Int) - a' < n) = false := decide_eq_false (by omega)
      go_enter_defers Try.func25, Try.ntmps25
      go_wp2_with (go_at_call 24; refine (HN.out _ (by repeat' (first | exact HI.out | apply IsS70.alloc)) (by repeat' (first | exact HB.out | apply below_alloc))).mono ?_; rintro e4 w4 ⟨rfl, hI4, hB4, hK4⟩; have I4 := Aside0.mk hI4; have B4 := Aside0.mk hB4; have K4 := Aside0.mk hK4; have b0 := hK4.blk (Hw.blk_al (Hw.blk_al (Hw.blk_nw w _) _) _) (fun h => hne0 h.symm) (by simp); have b1 := hK4.blk (Hw.blk_al (Hw.blk_nw1 w _ _) _) (fun h => hne1 h.symm) (by simp); have b2 := hK4.blk (Hw.blk_nw2 w _ _ _) (fun h => hne2 h.symm) (by simp); have c0 := blk_cell b0 0; have c1 := blk_cell b1 0; have c2 := blk_cell b2 0; have f1 := blk_frozen b1 0; have c3 := cellS70_0 hI4.1; have c4 := cellS70_1 hI4.1; have f4 := blk_frozen hI4.1 1; simp only [List.getElem?_toArray, List.getElem?_cons_zero] at c0 c1 c2; clear b0 b1 b2 hI4 hB4 hK4)
      go_quiet (fail)
      go_wp2
      obtain ⟨W5, hW5⟩ : ∃ W5 : World, W5 = ((w4.setCell ⟨w.heap.size + 1, 0, none⟩ (.int .i64 0)).drewN nq).setCell ⟨g, 1, none⟩ (.int .i64 (a' + n)) := ⟨_, rfl⟩
      have d0 : W5.cell? ⟨w.heap.size, 0, none⟩ = some (.pointer (some ⟨g, 0, none⟩)) := by rw [hW5]; simp [go_sem, c0, hne0]
      have d1 : W5.cell? ⟨w.heap.size + 1, 0, none⟩ = some (.int .i64 0) := by rw [hW5]; simp [go_sem, c1, hne1]
      have e1 : W5.frozen? ⟨w.heap.size + 1, 0, none⟩ = false := by rw [hW5]; simp [go_sem, f1, hne1]
      have d3 : W5.cell? ⟨g, 0, none⟩ = some (.string s') := by rw [hW5]; simp [go_sem, c3, hne1]
      have d4 : W5.cell? ⟨g, 1, none⟩ = some (.int .i64 (a' + n)) := by rw [hW5]; simp [go_sem, c4, hne1]
      rw [← hW5]
      have HW5 := Aside0.mk hW5
      clear hW5 c0 c1 c2 c3 c4 f1 f4 hgA hg0 hg1 hnb
      have hsl : ∀ W, (Instr.slice 9 (.string s') (some (.int .i64 a')) (some (.int .i64 (a' + n))) none).run Try.prog W = .ok (.string (s'.extract a'.toNat (a' + n).toNat)) W := fun W => run_slice_string _ _ _ _ _ _ _ Try.underlying9 hc3 (by omega) (by omega)
      have hwr : IntKind.i64.wrap a' = a' := IntWalk.i64_in _ (by omega)
      go_still_tail 16, (by kernel_rfl)
      change wpList _ _ _ _ _ W5.drew
      go_wp2
      refine leaves_cons (f := 36) (args := #[.pointer (some ⟨w.heap.size + 1, 0, none⟩), .pointer (some ⟨w.heap.size + 1 + 1, 0, none⟩), .pointer (some ⟨w.heap.size, 0, none⟩)]) (by simp) (by simp [go_sem]) ?_
      refine (pack_Reader_Text.d_ok _ _ _ .returning _ ?h1).mono ?_
      case h1 => simp [go_sem, d1]
      rintro e5 u' w5 ⟨rfl, rfl, rfl⟩
      refine ⟨.tuple #[.string (s'.extract a'.toNat (a' + n).toNat), .int .i64 0], by simp [results, Try.results25, go_sem, hne1, d1, e1], rfl, ?_, ?_, ?_⟩
      · have h5 : IsS70 w0 W5 g s' (a' + n) := by
          rw [HW5.out]
          refine IsS70.set_1 (f1 := a') ?_ _
          repeat' (first | exact I4.out | refine IsS70.far ?_ (by simpa using hne1) _ | apply IsS70.drewN)
        repeat' (first | exact h5 | refine IsS70.far ?_ (by simpa using hne1) _ | apply IsS70.drew)
      · have hg := HI.out.ge
        have hs := HB.out.size
        rw [HW5.out]
        repeat' (first | exact B4.out | refine Below.setCell ?_ (by simp only; omega) _ | refine pw_below_drewN ?_ _ | apply Below.drew)
      · rw [HW5.out]
        repeat' (first | exact Hw.keep_al (Hw.keep_al (Hw.keep_al K4.out)) | apply KeepBut.set_ | refine Hw.keep_new ?_ (by simp only; omega) _ | apply keep_drewN | apply keep_drew)
  · rw [if_neg he] at h
    have HH := Aside0.mk h
    clear h
    have he1 : (e == 0) = false := by simpa using he
    have he2 : (e != 0) = true := by simpa using he
    clear he
    go_enter_defers Try.func25, Try.ntmps25
    go_wp2_with (go_at_call 24; refine (HN.out _ (by repeat' (first | exact HI.out | apply IsS70.alloc)) (by repeat' (first | exact HB.out | apply below_alloc))).mono ?_; rintro e4 w4 ⟨rfl, hI4, hB4, hK4⟩; have I4 := Aside0.mk hI4; have B4 := Aside0.mk hB4; have K4 := Aside0.mk hK4; have b0 := hK4.blk (Hw.blk_al (Hw.blk_al (Hw.blk_nw w _) _) _) (fun h => hne0 h.symm) (by simp); have b1 := hK4.blk (Hw.blk_al (Hw.blk_nw1 w _ _) _) (fun h => hne1 h.symm) (by simp); have b2 := hK4.blk (Hw.blk_nw2 w _ _ _) (fun h => hne2 h.symm) (by simp); have c0 := blk_cell b0 0; have c1 := blk_cell b1 0; have c2 := blk_cell b2 0; have f1 := blk_frozen b1 0; have c3 := cellS70_0 hI4.1; have c4 := cellS70_1 hI4.1; have f4 := blk_frozen hI4.1 1; simp only [List.getElem?_toArray, List.getElem?_cons_zero] at c0 c1 c2; clear b0 b1 b2 hI4 hB4 hK4)
    go_region
    all_goals go_wp2
    all_goals
      refine leaves_cons (f := 36) (args := #[.pointer (some ⟨w.heap.size + 1, 0, none⟩), .pointer (some ⟨w.heap.size + 1 + 1, 0, none⟩), .pointer (some ⟨w.heap.size, 0, none⟩)]) (by simp) (by simp [go_sem]) ?_
      refine (pack_Reader_Text.d_bad _ _ _ g a a' e .returning _ he1 ?h1 ?h2 ?h3 ?h4 ?h5).mono ?_
      case h1 => simp [go_sem, c1]
      case h2 => simp [go_sem, c2]
      case h3 => simp [go_sem, c0]
      case h4 => simp [go_sem, c4, hne1]
      case h5 => simp [go_sem, f4]
      rintro e5 u' w5 ⟨rfl, rfl, rfl⟩
      have HH := HH.out
      by_cases hp : (s', a') = (s, a)
      · rw [if_pos hp] at HH
        obtain ⟨rfl, rfl⟩ := Prod.mk.inj hp
        simp only [Option.some.injEq, Prod.mk.injEq] at HH
        obtain ⟨rfl, rfl, rfl, rfl⟩ := HH
        refine ⟨.tuple #[.string .empty, .int .i64 e], by simp [results, Try.results25, go_sem, hne1, c1, f1]; rfl, rfl, ?_, ?_, ?_⟩
        · refine IsS70.set_1 (f1 := a') ?_ _
          repeat' (first | exact I4.out | refine IsS70.far ?_ (by simpa using hne1) _ | apply IsS70.drew)
        · have hg := HI.out.ge
          have hs := HB.out.size
          repeat' (first | exact B4.out | refine Below.setCell ?_ (by simp only; omega) _ | apply Below.drew)
        · repeat' (first | exact Hw.keep_al (Hw.keep_al (Hw.keep_al K4.out)) | apply KeepBut.set_ | refine Hw.keep_new ?_ (by simp only; omega) _ | apply keep_drew)
      · rw [if_neg hp] at HH; cases HH

/-! ### pack_Reader_End: function 26 -/
def pack_Reader_End.f (s0_0 : ByteArray) (s0_1 : Int) : Option (Int × ByteArray × Int) := if s0_1 < (s0_0.size : Int) then (some (21, s0_0, s0_1)) else (some (0, s0_0, s0_1))
set_option maxHeartbeats 8000000 in
set_option maxRecDepth 100000 in
theorem pack_Reader_End.calls (g : Nat) (s0_0 : ByteArray) (s0_1 : Int) (r1 : Int) (r2 : ByteArray) (r3 : Int) (w0 w : World) (hI : IsS70 w0 w g s0_0 s0_1) (hB : Below w0.heap.size w0 w) (h : pack_Reader_End.f s0_0 s0_1 = some (r1, r2, r3)) :
    Calls Try.prog 26 #[.pointer (some ⟨g, 0, none⟩)] w fun e w' => e = .returned (.int .i64 r1) ∧ IsS70 w0 w' g r2 r3 ∧ Below w0.heap.size w0 w' ∧ KeepBut w w' g none := by
  have HI0 := Aside0.mk hI
  have HK := Aside0.mk (KeepBut.refl w g none)
  have HL := Aside0.mk hB.size
  clear hI
  have HW0 := Aside0.mk hB.size
  have HB := Aside0.mk hB
  clear hB
  have H : (if s0_1 < (s0_0.size : Int) then (some (21, s0_0, s0_1)) else (some (0, s0_0, s0_1))) = some (r1, r2, r3) := h
  clear h
  by_cases c2 : s0_1 < (s0_0.size : Int)
  · rw [if_pos c2] at H
    have c2b0 : decide (s0_1 < (s0_0.size : Int)) = true := decide_eq_true c2
    clear c2
    simp only [Option.some.injEq, Prod.mk.injEq] at H
    obtain ⟨rfl, rfl, rfl⟩ := H
    obtain ⟨HGz3, hgz3⟩ := HI0.out
    have hcz3_0 := cellS70_0 HGz3
    have hcz3_1 := cellS70_1 HGz3
    have hfz3_0 := blk_frozen HGz3 0
    have hfz3_1 := blk_frozen HGz3 1
    clear HGz3 hgz3
    go_enter Try.func26, Try.ntmps26
    go_wp2
    repeat (go_quiet (fail); try go_wp2)
    go_ret
    exact ⟨by first | rfl | (simp [errW_none, errW_some] <;> rfl) | (simp [*, errW_none, errW_some] <;> rfl), by repeat (first | (with_reducible first | exact HI0.out | apply IsS70.alloc | apply IsS70.drewN | apply IsS70.drew | apply IsS70.set_0 | apply IsS70.set_1) | exact HI0.out), by repeat (first | (with_reducible first | exact HB.out | apply below_alloc | apply pw_below_drewN | apply below_drew1 | refine below_set ?_ (IsS70.ge HI0.out)) | exact HB.out), by repeat (first | (with_reducible first | exact HK.out | apply KeepBut.set_ | apply keep_drewN | apply keep_drew | apply keep_alloc) | exact HK.out)⟩
  · rw [if_neg c2] at H
    have c2b0 : decide (s0_1 < (s0_0.size : Int)) = false := decide_eq_false c2
    clear c2
    simp only [Option.some.injEq, Prod.mk.injEq] at H
    obtain ⟨rfl, rfl, rfl⟩ := H
    obtain ⟨HGz4, hgz4⟩ := HI0.out
    have hcz4_0 := cellS70_0 HGz4
    have hcz4_1 := cellS70_1 HGz4
    have hfz4_0 := blk_frozen HGz4 0
    have hfz4_1 := blk_frozen HGz4 1
    clear HGz4 hgz4
    go_enter Try.func26, Try.ntmps26
    go_wp2
    repeat (go_quiet (fail); try go_wp2)
    go_ret
    exact ⟨by first | rfl | (simp [errW_none, errW_some] <;> rfl) | (simp [*, errW_none, errW_some] <;> rfl), by repeat (first | (with_reducible first | exact HI0.out | apply IsS70.alloc | apply IsS70.drewN | apply IsS70.drew | apply IsS70.set_0 | apply IsS70.set_1) | exact HI0.out), by repeat (first | (with_reducible first | exact HB.out | apply below_alloc | apply pw_below_drewN | apply below_drew1 | refine below_set ?_ (IsS70.ge HI0.out)) | exact HB.out), by repeat (first | (with_reducible first | exact HK.out | apply KeepBut.set_ | apply keep_drewN | apply keep_drew | apply keep_alloc) | exact HK.out)⟩

end Go.Proofs.Ytndmfbaffkekgaa.PChunkSpoilt

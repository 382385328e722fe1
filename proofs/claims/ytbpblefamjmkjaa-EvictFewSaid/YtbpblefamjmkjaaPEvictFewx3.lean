-- By a program of this session (wip/tools/mkprint.py), for this claim.
import Derived.Test.YtbpblefamjmkjaaPEvictFewx0
namespace Go.Proofs.Ytbpblefamjmkjaa.PEvictFew
open Go.RowKit Go.Proofs.YtbpblefamjmkjaaW.PrintWords Go.Proofs.YtbpblefamjmkjaaW.PrintLast Go.Proofs.YtbpblefamjmkjaaW.PrintMore
attribute [local go_sem] max2_int min2_int max_two min_two max_three min_three max_four min_four   -- for this text's walks alone
set_option linter.unusedVariables false
set_option linter.unusedSimpArgs false

/-! ### heap_down: function 25 (by hand) -/
abbrev Ev.E := S29 × Int
def Ev.z : Ev.E := (z29, 0)
/-- Who goes first: the one used longer ago, then the lesser key, then the earlier place. -/
def Ev.lt (a b : Ev.E) : Bool := if a.1.f2 = b.1.f2 then (Op.bytesLess a.1.f0.toList b.1.f0.toList || (a.1.f0.toList == b.1.f0.toList && decide (a.2 < b.2))) else decide (a.1.f2 < b.1.f2)
/-- Block g holds the heap's two rows, of the call's own: entries, and their places. -/
structure Ev.Hp (W : World) (base g : Nat) (zs : List Ev.E) (v1 v2 : Value) : Prop where
  ob : W.heap[g]? = some (.cells #[v1, v2] 54 (0, 0))
  hg : base ≤ g
  r1 : Kd.R k29 29 W base (fun _ => True) v1 (zs.map Prod.fst)
  r2 : Kd.R (Kd.int .i64) 3 W base (fun _ => True) v2 (zs.map Prod.snd)
theorem Ev.Hp.below {W W1 : World} {base g : Nat} {zs : List Ev.E} {v1 v2 : Value} (h : Ev.Hp W base g zs v1 v2) (hb : Below W.heap.size W W1) : Ev.Hp W1 base g zs v1 v2 :=
  ⟨(hb.block g (Array.getElem?_eq_some_iff.1 h.ob).1).trans h.ob, h.hg, Kd.R_below h.r1 hb, Kd.R_below h.r2 hb⟩
theorem Ev.Hp.c0 {W : World} {base g : Nat} {zs : List Ev.E} {v1 v2 : Value} (h : Ev.Hp W base g zs v1 v2) : W.cell? ⟨g, 0, none⟩ = some v1 := by simp [World.cell?, h.ob]
theorem Ev.Hp.c1 {W : World} {base g : Nat} {zs : List Ev.E} {v1 v2 : Value} (h : Ev.Hp W base g zs v1 v2) : W.cell? ⟨g, 1, none⟩ = some v2 := by simp [World.cell?, h.ob]
theorem Ev.getD_map {α β : Type} (f : α → β) (l : List α) (i : Nat) (a : α) : (l.map f).getD i (f a) = f (l.getD i a) := by
  simp only [List.getD_eq_getElem?_getD, List.getElem?_map]
  cases l[i]? <;> rfl
/-- What is read of an entry. -/
theorem Ev.Hp.row1 {W : World} {base g : Nat} {zs : List Ev.E} {v1 v2 : Value} (h : Ev.Hp W base g zs v1 v2) (hp : 0 < zs.length) :
    ∃ b1 c1, v1 = .slice (some ⟨b1, 0, none⟩) zs.length c1 ∧ zs.length ≤ c1 ∧ base ≤ b1 ∧ b1 < W.heap.size ∧ (∃ cells, W.heap[b1]? = some (.cells cells 29 (0, 0))) ∧
      ∀ i, i < zs.length → W.cell? ⟨b1, i * 4, none⟩ = some (.string (zs.getD i Ev.z).1.f0) ∧ W.cell? ⟨b1, i * 4 + 1, none⟩ = some (.int .i64 (zs.getD i Ev.z).1.f1) ∧ W.cell? ⟨b1, i * 4 + 2, none⟩ = some (.int .i64 (zs.getD i Ev.z).1.f2) ∧ W.cell? ⟨b1, i * 4 + 3, none⟩ = some (.bool (zs.getD i Ev.z).1.f3) := by
  have hl : (zs.map Prod.fst).length = zs.length := List.length_map _
  obtain ⟨b1, c1, rfl, hb, hlt, hc⟩ := Kd.R_form h.r1 (by rw [hl]; exact hp)
  obtain ⟨_, hle, hC⟩ := Kd.R_reads' h.r1
  simp only [List.length_map] at *
  refine ⟨b1, c1, rfl, hle, hb, hlt, hc, fun i hi => ?_⟩
  obtain ⟨ad, e, h0, h1, h2, h3⟩ := at_T29 hC (i : Int) (by omega) (by omega)
  cases e
  have e2 : rd_T29 (zs.map Prod.fst) (i : Int) = (zs.getD i Ev.z).1 := Ev.getD_map Prod.fst zs i Ev.z
  rw [e2] at h0 h1 h2 h3
  have ea : (⟨b1, 0, none⟩ : Addr).add (i * 4) = ⟨b1, i * 4, none⟩ := by
    unfold Addr.add
    split
    · rename_i h; rw [h]
    · simp
  rw [Int.toNat_natCast, ea] at h0 h1 h2 h3
  exact ⟨h0, h1, h2, h3⟩
theorem Ev.Hp.row2 {W : World} {base g : Nat} {zs : List Ev.E} {v1 v2 : Value} (h : Ev.Hp W base g zs v1 v2) (hp : 0 < zs.length) :
    ∃ b2 c2, v2 = .slice (some ⟨b2, 0, none⟩) zs.length c2 ∧ zs.length ≤ c2 ∧ base ≤ b2 ∧ b2 < W.heap.size ∧ (∃ cells, W.heap[b2]? = some (.cells cells 3 (0, 0))) ∧
      ∀ i, i < zs.length → W.cell? ⟨b2, i, none⟩ = some (.int .i64 (zs.getD i Ev.z).2) := by
  have hl : (zs.map Prod.snd).length = zs.length := List.length_map _
  obtain ⟨b2, c2, rfl, hb, hlt, hc⟩ := Kd.R_form h.r2 (by rw [hl]; exact hp)
  obtain ⟨_, hle, hC⟩ := Kd.R_reads' h.r2
  simp only [List.length_map] at *
  refine ⟨b2, c2, rfl, hle, hb, hlt, hc, fun i hi => ?_⟩
  obtain ⟨ad, c, e, hcl, hK, hcc⟩ := Kd.C_get hC (0 : Int) (i : Int) (by omega) (by omega)
  cases e
  have hk : c = [.int .i64 ((zs.map Prod.snd).getD (i : Int).toNat 0)] := hK
  have := hcc 0 (.int .i64 (zs.getD i Ev.z).2) (by rw [hk, Int.toNat_natCast]; show some (Value.int .i64 ((zs.map Prod.snd).getD i (Prod.snd Ev.z))) = _; rw [Ev.getD_map])
  have e3 : (Kd.int .i64).sz = 1 := rfl
  have ea : (⟨b2, 0, none⟩ : Addr).add i = ⟨b2, i, none⟩ := by
    unfold Addr.add
    split
    · rename_i h; rw [h]
    · simp
  rw [Int.toNat_natCast, e3, Nat.mul_one, Nat.add_zero, ea] at this
  exact this
set_option maxHeartbeats 4000000 in
set_option maxRecDepth 100000 in
theorem Ev.less (zs : List Ev.E) (i j : Nat) (base g : Nat) (v1 v2 : Value) (w : World) (h : Ev.Hp w base g zs v1 v2) (hi : i < zs.length) (hj : j < zs.length) (hz : zs.length ≤ 1000000) :
    Calls Try.prog 42 #[.pointer (some ⟨g, 0, none⟩), .int .i64 (i : Int), .int .i64 (j : Int)] w fun e w' => e = .returned (.bool (Ev.lt (zs.getD i Ev.z) (zs.getD j Ev.z))) ∧ Below w.heap.size w w' := by
  obtain ⟨b1, c1, rfl, hn1, hb1, hlt1, ⟨cells1, hh1⟩, hr1⟩ := h.row1 (by omega)
  obtain ⟨b2, c2, rfl, hn2, hb2, hlt2, ⟨cells2, hh2⟩, hr2⟩ := h.row2 (by omega)
  have hc0 := h.c0
  have hc1 := h.c1
  obtain ⟨i0, i1, i2, i3⟩ := hr1 i hi
  obtain ⟨j0, j1, j2, j3⟩ := hr1 j hj
  have k0 := hr2 i hi
  have k1 := hr2 j hj
  clear hr1 hr2 h
  obtain ⟨X, hX⟩ : ∃ X, X = zs.getD i Ev.z := ⟨_, rfl⟩
  obtain ⟨Y, hY⟩ : ∃ Y, Y = zs.getD j Ev.z := ⟨_, rfl⟩
  rw [← hX] at i0 i1 i2 i3 k0 ⊢
  rw [← hY] at j0 j1 j2 j3 k1 ⊢
  clear hX hY
  have d1 : (0 : Int) ≤ (i : Int) := by omega
  have d2 : (i : Int) < (zs.length : Int) := by omega
  have d3 : (0 : Int) ≤ (j : Int) := by omega
  have d4 : (j : Int) < (zs.length : Int) := by omega
  have ne0 := World.new_ne w _ hc0
  have ne1 := World.new_ne w _ i0
  have ne2 := World.new_ne w _ j0
  have KA : ∀ o o' : Obj, ((w.alloc o).alloc o').cell? ⟨g, 1, none⟩ = some (.slice (some ⟨b2, 0, none⟩) zs.length c2) := fun o o' => Hw.cell_al (Hw.cell_al hc1 o) o'
  have KB : ∀ o o' : Obj, ((w.alloc o).alloc o').cell? ⟨b2, i, none⟩ = some (.int .i64 X.2) := fun o o' => Hw.cell_al (Hw.cell_al k0 o) o'
  have KC : ∀ o o' : Obj, ((w.alloc o).alloc o').cell? ⟨b2, j, none⟩ = some (.int .i64 Y.2) := fun o o' => Hw.cell_al (Hw.cell_al k1 o) o'
  have HB := fun o o' : Obj => ((Below.refl w.heap.size w).alloc (Nat.le_refl _) o).alloc (by simp) o'
  have hlt : Ev.lt X Y = if X.1.f2 = Y.1.f2 then (Op.bytesLess X.1.f0.toList Y.1.f0.toList || (X.1.f0.toList == Y.1.f0.toList && decide (X.2 < Y.2))) else decide (X.1.f2 < Y.1.f2) := rfl
  rw [hlt]
  clear hlt
  by_cases u : X.1.f2 = Y.1.f2
  · rw [if_pos u]
    have u1 : (X.1.f2 == Y.1.f2) = true := by simpa using u
    have u2 : (X.1.f2 != Y.1.f2) = false := by simpa using u
    cases ul : Op.bytesLess X.1.f0.toList Y.1.f0.toList
    · cases ue : (X.1.f0.toList == Y.1.f0.toList)
      · go_enter Try.func42, Try.ntmps42
        go_wp2
        go_region_held3 (fun W => W.cell? ⟨g, 0, none⟩ = some (.slice (some ⟨b1, 0, none⟩) zs.length c1) ∧ W.cell? ⟨b1, i * 4, none⟩ = some (.string X.1.f0) ∧ W.cell? ⟨b1, i * 4 + 1, none⟩ = some (.int .i64 X.1.f1) ∧ W.cell? ⟨b1, i * 4 + 2, none⟩ = some (.int .i64 X.1.f2) ∧ W.cell? ⟨b1, i * 4 + 3, none⟩ = some (.bool X.1.f3) ∧
          W.cell? ⟨b1, j * 4, none⟩ = some (.string Y.1.f0) ∧ W.cell? ⟨b1, j * 4 + 1, none⟩ = some (.int .i64 Y.1.f1) ∧ W.cell? ⟨b1, j * 4 + 2, none⟩ = some (.int .i64 Y.1.f2) ∧ W.cell? ⟨b1, j * 4 + 3, none⟩ = some (.bool Y.1.f3)) (go_keep) (fail)
        all_goals go_wp2
        all_goals (go_quiet (fail))
        all_goals go_wp2
        all_goals go_ret
        all_goals exact ⟨rfl, pw_below_drewN (HB _ _).drew _⟩
      · go_enter Try.func42, Try.ntmps42
        go_wp2
        go_region_held3 (fun W => W.cell? ⟨g, 0, none⟩ = some (.slice (some ⟨b1, 0, none⟩) zs.length c1) ∧ W.cell? ⟨b1, i * 4, none⟩ = some (.string X.1.f0) ∧ W.cell? ⟨b1, i * 4 + 1, none⟩ = some (.int .i64 X.1.f1) ∧ W.cell? ⟨b1, i * 4 + 2, none⟩ = some (.int .i64 X.1.f2) ∧ W.cell? ⟨b1, i * 4 + 3, none⟩ = some (.bool X.1.f3) ∧
          W.cell? ⟨b1, j * 4, none⟩ = some (.string Y.1.f0) ∧ W.cell? ⟨b1, j * 4 + 1, none⟩ = some (.int .i64 Y.1.f1) ∧ W.cell? ⟨b1, j * 4 + 2, none⟩ = some (.int .i64 Y.1.f2) ∧ W.cell? ⟨b1, j * 4 + 3, none⟩ = some (.bool Y.1.f3)) (go_keep) (fail)
        all_goals go_wp2
        all_goals (go_quiet (fail))
        all_goals go_wp2
        all_goals go_ret
        all_goals exact ⟨rfl, pw_below_drewN (HB _ _).drew _⟩
    · go_enter Try.func42, Try.ntmps42
      go_wp2
      go_region_held3 (fun W => W.cell? ⟨g, 0, none⟩ = some (.slice (some ⟨b1, 0, none⟩) zs.length c1) ∧ W.cell? ⟨b1, i * 4, none⟩ = some (.string X.1.f0) ∧ W.cell? ⟨b1, i * 4 + 1, none⟩ = some (.int .i64 X.1.f1) ∧ W.cell? ⟨b1, i * 4 + 2, none⟩ = some (.int .i64 X.1.f2) ∧ W.cell? ⟨b1, i * 4 + 3, none⟩ = some (.bool X.1.f3) ∧
        W.cell? ⟨b1, j * 4, none⟩ = some (.string Y.1.f0) ∧ W.cell? ⟨b1, j * 4 + 1, none⟩ = some (.int .i64 Y.1.f1) ∧ W.cell? ⟨b1, j * 4 + 2, none⟩ = some (.int .i64 Y.1.f2) ∧ W.cell? ⟨b1, j * 4 + 3, none⟩ = some (.bool Y.1.f3)) (go_keep) (fail)
      all_goals go_wp2
      all_goals (go_quiet (fail))
      all_goals go_wp2
      all_goals go_ret
      all_goals exact ⟨rfl, pw_below_drewN (HB _ _).drew _⟩
  · rw [if_neg u]
    have u1 : (X.1.f2 == Y.1.f2) = false := by simpa using u
    have u2 : (X.1.f2 != Y.1.f2) = true := by simpa using u
    go_enter Try.func42, Try.ntmps42
    go_wp2
    go_region_held3 (fun W => W.cell? ⟨g, 0, none⟩ = some (.slice (some ⟨b1, 0, none⟩) zs.length c1) ∧ W.cell? ⟨b1, i * 4, none⟩ = some (.string X.1.f0) ∧ W.cell? ⟨b1, i * 4 + 1, none⟩ = some (.int .i64 X.1.f1) ∧ W.cell? ⟨b1, i * 4 + 2, none⟩ = some (.int .i64 X.1.f2) ∧ W.cell? ⟨b1, i * 4 + 3, none⟩ = some (.bool X.1.f3) ∧
      W.cell? ⟨b1, j * 4, none⟩ = some (.string Y.1.f0) ∧ W.cell? ⟨b1, j * 4 + 1, none⟩ = some (.int .i64 Y.1.f1) ∧ W.cell? ⟨b1, j * 4 + 2, none⟩ = some (.int .i64 Y.1.f2) ∧ W.cell? ⟨b1, j * 4 + 3, none⟩ = some (.bool Y.1.f3)) (go_keep) (fail)
    all_goals go_wp2
    all_goals go_ret
    all_goals exact ⟨rfl, (HB _ _).drew⟩
/-! ### ev_swap: function 1025 (by hand) -/
theorem Ev.len (v1 : Value) (n c : Nat) (A : Option Addr) (w : World) : Calls Try.prog 20 #[.agg #[.slice A n c]] w fun e w' => e = .returned (.int .i64 (n : Int)) ∧ Below w.heap.size w w' := by
  go_enter Try.func20, Try.ntmps20
  go_wp2
  go_ret
  exact ⟨rfl, (Below.refl w.heap.size w).alloc (Nat.le_refl _) _⟩
def Ev.swap (zs : List Ev.E) (i j : Nat) : List Ev.E := (zs.set i (zs.getD j Ev.z)).set j (zs.getD i Ev.z)
theorem Ev.cells_eq (W : World) (b k : Nat) (a1 a2 a3 a4 : Value) : ((((W.setCell ⟨b, k, none⟩ a1).setCell ⟨b, k + 1, none⟩ a2).setCell ⟨b, k + 2, none⟩ a3).setCell ⟨b, k + 3, none⟩ a4) = W.setCells b k [a1, a2, a3, a4] := by
  simp only [World.setCells]
/-- An entry is put into its row. -/
theorem Ev.put1 {W : World} {base : Nat} {b n c : Nat} {xs : List S29} (h : Kd.R k29 29 W base (fun _ => True) (.slice (some ⟨b, 0, none⟩) n c) xs) (i : Nat) (hi : i < xs.length) (x : S29) :
    Kd.R k29 29 ((((W.setCell ⟨b, i * 4, none⟩ (.string x.f0)).setCell ⟨b, i * 4 + 1, none⟩ (.int .i64 x.f1)).setCell ⟨b, i * 4 + 2, none⟩ (.int .i64 x.f2)).setCell ⟨b, i * 4 + 3, none⟩ (.bool x.f3)) base (fun _ => True) (.slice (some ⟨b, 0, none⟩) n c) (xs.set i x) ∧ W.grownBy ((((W.setCell ⟨b, i * 4, none⟩ (.string x.f0)).setCell ⟨b, i * 4 + 1, none⟩ (.int .i64 x.f1)).setCell ⟨b, i * 4 + 2, none⟩ (.int .i64 x.f2)).setCell ⟨b, i * 4 + 3, none⟩ (.bool x.f3)) (some b) := by
  obtain ⟨hn, hle, hC⟩ := Kd.R_reads' h
  obtain ⟨ad, cs, e, hcl, hK, hcc⟩ := Kd.C_get hC z29 (i : Int) (by omega) (by omega)
  cases e
  have e4 : k29.sz = 4 := rfl
  have ea : ∀ m : Nat, (⟨b, 0, none⟩ : Addr).add m = ⟨b, m, none⟩ := by
    intro m
    unfold Addr.add
    split
    · rename_i h; rw [h]
    · simp
  have hs := Kd.R_seg (okp := fun _ => False) h (i : Int) (by omega) (by omega) (c := cs) (seg := [.string x.f0, .int .i64 x.f1, .int .i64 x.f2, .bool x.f3]) (j := 0) hcl (fun j u hj => by have := hcc j u hj; rwa [ea] at this) (by rw [e4]; simp) (x' := x) (by
    rw [List.take_zero, List.nil_append, List.drop_eq_nil_of_le (by rw [hcl, e4]; simp), List.append_nil]
    exact k29_mkM W base _ x) (fun _ hk => hk.elim)
  rw [e4, Int.toNat_natCast, Nat.add_zero] at hs
  rw [Ev.cells_eq]
  exact hs
/-! ### ev_swap1: function 1026 (by hand) -/
set_option maxHeartbeats 4000000 in
set_option maxRecDepth 100000 in
theorem Ev.swap1 (xs : List S29) (i j b1 c1 base n : Nat) (w : World) (hn : n = xs.length) (hi : i < xs.length) (hj : j < xs.length) (hb : base ≤ w.heap.size)
    (h : Kd.R k29 29 w base (fun _ => True) (.slice (some ⟨b1, 0, none⟩) n c1) xs) :
    Calls Try.prog 45 #[.agg #[.slice (some ⟨b1, 0, none⟩) n c1], .int .i64 (i : Int), .int .i64 (j : Int)] w fun e w' => e = .returned (.tuple #[]) ∧
      Kd.R k29 29 w' base (fun _ => True) (.slice (some ⟨b1, 0, none⟩) n c1) ((xs.set i (xs.getD j z29)).set j (xs.getD i z29)) ∧ w.grownBy w' (some b1) := by
  subst hn
  obtain ⟨_, hle, hC⟩ := Kd.R_reads' h
  have ea : ∀ m : Nat, (⟨b1, 0, none⟩ : Addr).add m = ⟨b1, m, none⟩ := by
    intro m
    unfold Addr.add
    split
    · rename_i h; rw [h]
    · simp
  have rd : ∀ k, k < xs.length → ∃ X : S29, X = xs.getD k z29 ∧ w.cell? ⟨b1, k * 4, none⟩ = some (.string X.f0) ∧ w.cell? ⟨b1, k * 4 + 1, none⟩ = some (.int .i64 X.f1) ∧ w.cell? ⟨b1, k * 4 + 2, none⟩ = some (.int .i64 X.f2) ∧ w.cell? ⟨b1, k * 4 + 3, none⟩ = some (.bool X.f3) := by
    intro k hk
    obtain ⟨ad, e, h0, h1, h2, h3⟩ := at_T29 hC (k : Int) (by omega) (by omega)
    cases e
    rw [Int.toNat_natCast, ea] at h0 h1 h2 h3
    exact ⟨_, rfl, h0, h1, h2, h3⟩
  obtain ⟨X, hX, i0, i1, i2, i3⟩ := rd i hi
  obtain ⟨Y, hY, j0, j1, j2, j3⟩ := rd j hj
  rw [← hX, ← hY]
  have hXY : i = j → X = Y := by rintro rfl; rw [hX, hY]
  clear hX hY rd
  have hfz : ∀ m, w.frozen? ⟨b1, m, none⟩ = false := by
    intro m
    obtain ⟨_, inner, ho, _⟩ := h
    rcases ho.2 with ⟨h', _⟩ | ⟨g', cap', cur, h', _, hh, _⟩
    · cases h'
    · injection h' with h1 h2 h3
      injection h1 with h1
      injection h1 with h1
      subst h1
      simp [World.frozen?, hh]
  have hbl := World.block_lt_of_cell? w _ i0
  have ne1 := World.new_ne w _ i0
  have H := Aside0.mk h
  clear h hC
  have d1 : (0 : Int) ≤ (i : Int) := by omega
  have d2 : (i : Int) < (xs.length : Int) := by omega
  have d3 : (0 : Int) ≤ (j : Int) := by omega
  have d4 : (j : Int) < (xs.length : Int) := by omega
  go_enter Try.func45, Try.ntmps45
  go_wp2
  obtain ⟨W5, hW5⟩ : ∃ W5, W5 = w.alloc (.cells #[.slice (some ⟨b1, 0, none⟩) xs.length c1] 51) := ⟨_, rfl⟩
  have a0 : W5.cell? ⟨w.heap.size, 0, none⟩ = some (.slice (some ⟨b1, 0, none⟩) xs.length c1) := by rw [hW5]; simp
  have al : ∀ {a : Addr} {v : Value}, w.cell? a = some v → W5.cell? a = some v := fun h => by rw [hW5]; exact Hw.cell_al h _
  have fz : ∀ m, W5.frozen? ⟨b1, m, none⟩ = false := fun m => by rw [hW5]; exact Hw.frozen_al hbl (hfz m) _
  replace i0 := al i0
  replace i1 := al i1
  replace i2 := al i2
  replace i3 := al i3
  replace j0 := al j0
  replace j1 := al j1
  replace j2 := al j2
  replace j3 := al j3
  clear al hfz
  rw [← hW5]
  have HW5 := Aside0.mk hW5
  clear hW5
  generalize w.heap.size = n0 at *
  by_cases e : i = j
  · subst e
    have hXX := hXY rfl
    subst hXX
    go_region
    all_goals go_end0
    all_goals
      have h5 : Kd.R k29 29 W5 base (fun _ => True) (.slice (some ⟨b1, 0, none⟩) xs.length c1) xs := by rw [HW5.out]; exact Kd.R_alloc H.out _
      obtain ⟨p1, g1⟩ := Ev.put1 h5 i hi X
      obtain ⟨p2, g2⟩ := Ev.put1 p1 i (by rw [List.length_set]; exact hi) X
      have g0 : w.grownBy W5 (some b1) := by rw [HW5.out]; exact World.grownBy_alloc w _ _
      have g3 := (g0.trans (g1.trans g2)).trans (Hw.grown_drew _ _)
      have p3 := Kd.R_drew p2
      clear p1 g1 p2 g2 g0 h5 HW5
      refine ⟨rfl, ?_, ?_⟩
      · with_reducible exact p3
      · with_reducible exact g3
  · have q00 : i * 4 ≠ j * 4 := by omega
    have q01 : i * 4 ≠ j * 4 + 1 := by omega
    have q02 : i * 4 ≠ j * 4 + 2 := by omega
    have q03 : i * 4 ≠ j * 4 + 3 := by omega
    have q10 : i * 4 + 1 ≠ j * 4 := by omega
    have q20 : i * 4 + 2 ≠ j * 4 := by omega
    have q30 : i * 4 + 3 ≠ j * 4 := by omega
    have q11 : i * 4 + 1 ≠ j * 4 + 1 := by omega
    have q12 : i * 4 + 1 ≠ j * 4 + 2 := by omega
    have q13 : i * 4 + 1 ≠ j * 4 + 3 := by omega
    have q21 : i * 4 + 2 ≠ j * 4 + 1 := by omega
    have q22 : i * 4 + 2 ≠ j * 4 + 2 := by omega
    have q23 : i * 4 + 2 ≠ j * 4 + 3 := by omega
    have q31 : i * 4 + 3 ≠ j * 4 + 1 := by omega
    have q32 : i * 4 + 3 ≠ j * 4 + 2 := by omega
    have q33 : i * 4 + 3 ≠ j * 4 + 3 := by omega
    go_region
    all_goals go_end0
    all_goals
      have h5 : Kd.R k29 29 W5 base (fun _ => True) (.slice (some ⟨b1, 0, none⟩) xs.length c1) xs := by rw [HW5.out]; exact Kd.R_alloc H.out _
      obtain ⟨p1, g1⟩ := Ev.put1 h5 i hi Y
      obtain ⟨p2, g2⟩ := Ev.put1 p1 j (by rw [List.length_set]; exact hj) X
      have g0 : w.grownBy W5 (some b1) := by rw [HW5.out]; exact World.grownBy_alloc w _ _
      have g3 := (g0.trans (g1.trans g2)).trans (Hw.grown_drew _ _)
      have p3 := Kd.R_drew p2
      clear p1 g1 p2 g2 g0 h5 HW5
      refine ⟨rfl, ?_, ?_⟩
      · with_reducible exact p3
      · with_reducible exact g3
/-! ### ev_swap2: function 1027 (by hand) -/
/-- What stood below base is as it was, and so are all rows of other kinds than the heap's. -/
structure Ev.Bw (base : Nat) (w w' : World) : Prop where
  b : Below base w w'
  f : ∀ (k : Nat) (cells : Array Value) (t : TypeId), w.heap[k]? = some (Obj.cells cells t (0, 0)) → t ≠ 29 → t ≠ 3 → t ≠ 54 → w'.heap[k]? = w.heap[k]?
theorem Ev.Bw.refl (base : Nat) (w : World) : Ev.Bw base w w := ⟨Below.refl _ _, fun _ _ _ _ _ _ _ => rfl⟩
theorem Ev.Bw.size {base : Nat} {w w' : World} (h : Ev.Bw base w w') : w.heap.size ≤ w'.heap.size := h.b.size
theorem Ev.Bw.trans {base : Nat} {a w w' : World} (h : Ev.Bw base a w) (h' : Ev.Bw base w w') : Ev.Bw base a w' :=
  ⟨h.b.trans h'.b, fun k cells t e h1 h2 h3 => by
    have e1 := h.f k cells t e h1 h2 h3
    rw [← e1]
    exact h'.f k cells t (e1.trans e) h1 h2 h3⟩
theorem Ev.Bw.of {base : Nat} {w w' : World} (h : Below w.heap.size w w') (hb : base ≤ w.heap.size) : Ev.Bw base w w' :=
  ⟨h.mono hb, fun k _ _ e _ _ _ => h.block k (Array.getElem?_eq_some_iff.1 e).1⟩
theorem Ev.Bw.grown {base b t0 : Nat} {cs : Array Value} {a w w' : World} (h : Ev.Bw base a w) (hg : w.grownBy w' (some b)) (hb : base ≤ w.heap.size) (hbb : base ≤ b) (hty : w.heap[b]? = some (.cells cs t0 (0, 0))) (ht : t0 = 29 ∨ t0 = 3 ∨ t0 = 54) : Ev.Bw base a w' :=
  ⟨h.b.grown hg hb (fun k e => by cases e; exact hbb), fun k cells t e h1 h2 h3 => by
    have e1 := h.f k cells t e h1 h2 h3
    rw [← e1]
    have e2 := e1.trans e
    refine hg.block k (Array.getElem?_eq_some_iff.1 e2).1 ?_
    intro e3
    cases e3
    rw [hty] at e2
    injection e2 with e2
    injection e2 with _ e2
    subst e2
    rcases ht with ht | ht | ht
    · exact h1 ht
    · exact h2 ht
    · exact h3 ht⟩
theorem Ev.Bw.set {base t0 : Nat} {cs : Array Value} {a w : World} {p : Addr} (h : Ev.Bw base a w) (hbb : base ≤ p.block) (hty : w.heap[p.block]? = some (.cells cs t0 (0, 0))) (ht : t0 = 29 ∨ t0 = 3 ∨ t0 = 54) (u : Value) : Ev.Bw base a (w.setCell p u) :=
  ⟨h.b.setCell hbb u, fun k cells t e h1 h2 h3 => by
    have e1 := h.f k cells t e h1 h2 h3
    rw [← e1]
    have e2 := e1.trans e
    refine Below.heap_setCell w p u k ?_
    rintro rfl
    rw [hty] at e2
    injection e2 with e2
    injection e2 with _ e2
    subst e2
    rcases ht with ht | ht | ht
    · exact h1 ht
    · exact h2 ht
    · exact h3 ht⟩
theorem Ev.Bw.drew {base : Nat} {a w : World} (h : Ev.Bw base a w) : Ev.Bw base a w.drew := ⟨h.b.drew, h.f⟩
theorem Ev.Bw.alloc {base : Nat} {a w : World} (h : Ev.Bw base a w) (hb : base ≤ w.heap.size) (o : Obj) : Ev.Bw base a (w.alloc o) := h.trans (Ev.Bw.of ((Below.refl w.heap.size w).alloc (Nat.le_refl _) o) hb)
theorem Ev.ints {W : World} {base b2 n c2 : Nat} {ok : Nat → Prop} {ys : List Int} (h : Kd.R (Kd.int .i64) 3 W base ok (.slice (some ⟨b2, 0, none⟩) n c2) ys) (i : Nat) (hi : i < ys.length) :
    W.cell? ⟨b2, i, none⟩ = some (.int .i64 (ys.getD i 0)) ∧ W.frozen? ⟨b2, i, none⟩ = false := by
  obtain ⟨hn, hle, hC⟩ := Kd.R_reads' h
  obtain ⟨ad, c, e, hcl, hK, hcc⟩ := Kd.C_get hC (0 : Int) (i : Int) (by omega) (by omega)
  cases e
  have hk : c = [.int .i64 (ys.getD (i : Int).toNat 0)] := hK
  have h0 := hcc 0 (.int .i64 (ys.getD i 0)) (by rw [hk, Int.toNat_natCast]; rfl)
  have e3 : (Kd.int .i64).sz = 1 := rfl
  have ea : (⟨b2, 0, none⟩ : Addr).add i = ⟨b2, i, none⟩ := by
    unfold Addr.add
    split
    · rename_i h; rw [h]
    · simp
  rw [Int.toNat_natCast, e3, Nat.mul_one, Nat.add_zero, ea] at h0
  refine ⟨h0, ?_⟩
  obtain ⟨_, inner, ho, _⟩ := h
  rcases ho.2 with ⟨h', _⟩ | ⟨g', cap', cur, h', _, hh, _⟩
  · cases h'
  · injection h' with h1 h2 h3
    injection h1 with h1
    injection h1 with h1
    subst h1
    simp [World.frozen?, hh]
theorem Ev.map_swap {β : Type} (f : Ev.E → β) (zs : List Ev.E) (i j : Nat) : (Ev.swap zs i j).map f = ((zs.map f).set i ((zs.map f).getD j (f Ev.z))).set j ((zs.map f).getD i (f Ev.z)) := by
  unfold Ev.swap
  rw [List.map_set, List.map_set, Ev.getD_map, Ev.getD_map]
theorem Ev.swap_len (zs : List Ev.E) (i j : Nat) : (Ev.swap zs i j).length = zs.length := by unfold Ev.swap; simp
set_option maxHeartbeats 4000000 in
set_option maxRecDepth 100000 in
theorem Ev.swapC (zs : List Ev.E) (i j base g : Nat) (v1 v2 : Value) (w : World) (h : Ev.Hp w base g zs v1 v2) (hi : i < zs.length) (hj : j < zs.length) (hz : zs.length ≤ 1000000) (hb : base ≤ w.heap.size) :
    Calls Try.prog 44 #[.pointer (some ⟨g, 0, none⟩), .int .i64 (i : Int), .int .i64 (j : Int)] w fun e w' => e = .returned (.tuple #[]) ∧ Ev.Hp w' base g (Ev.swap zs i j) v1 v2 ∧ Ev.Bw base w w' := by
  obtain ⟨b1, c1, rfl, hn1, hb1, hlt1, ⟨cells1, hh1⟩, _⟩ := h.row1 (by omega)
  obtain ⟨b2, c2, rfl, hn2, hb2, hlt2, ⟨cells2, hh2⟩, hr2⟩ := h.row2 (by omega)
  have hc0 := h.c0
  have hl : (zs.map Prod.fst).length = zs.length := List.length_map _
  have H1 := h.r1
  have HS := Aside0.mk (Ev.swap1 (zs.map Prod.fst) i j b1 c1 base zs.length w hl.symm (by rw [hl]; exact hi) (by rw [hl]; exact hj) hb H1)
  have hne12 : b1 ≠ b2 := by rintro rfl; rw [hh1] at hh2; cases hh2
  have hne1g : g ≠ b1 := by rintro rfl; rw [h.ob] at hh1; cases hh1
  have hne2g : g ≠ b2 := by rintro rfl; rw [h.ob] at hh2; cases hh2
  have HH := Aside0.mk h
  have HB1 := Aside0.mk hh1
  have HB2 := Aside0.mk hh2
  clear h H1 hr2 hh1 hh2
  go_enter Try.func44, Try.ntmps44
  go_wp2_with (go_at_call 45; refine HS.out.mono ?_; rintro e w3 ⟨rfl, hr3, hg3⟩; have HR3 := Aside0.mk hr3; have HG3 := Aside0.mk hg3; clear hr3 hg3)
  have hltg : g < w.heap.size := (Array.getElem?_eq_some_iff.1 HH.out.ob).1
  have ob3 : w3.heap[g]? = some (.cells #[.slice (some ⟨b1, 0, none⟩) zs.length c1, .slice (some ⟨b2, 0, none⟩) zs.length c2] 54 (0, 0)) := (HG3.out.block g hltg (by intro e; cases e; exact hne1g rfl)).trans HH.out.ob
  have hc1 : w3.cell? ⟨g, 1, none⟩ = some (.slice (some ⟨b2, 0, none⟩) zs.length c2) := by simp [World.cell?, ob3]
  have R2 : Kd.R (Kd.int .i64) 3 w3 base (fun _ => True) (.slice (some ⟨b2, 0, none⟩) zs.length c2) (zs.map Prod.snd) := by
    have ht := Kd.R_types (g := b1) (t := 29) HH.out.r2 HB1.out (by intro q hq; simp [Kd.int, Kd.scalar] at hq; omega)
    exact Kd.R_mono (Kd.R_grown ht HG3.out (fun k hk e => hk.2 (Option.some.inj e))) (fun _ _ => trivial)
  have hl2 : (zs.map Prod.snd).length = zs.length := List.length_map _
  obtain ⟨k0, f0⟩ := Ev.ints R2 i (by omega)
  obtain ⟨k1, f1⟩ := Ev.ints R2 j (by omega)
  obtain ⟨X, hX⟩ : ∃ X, X = (zs.map Prod.snd).getD i 0 := ⟨_, rfl⟩
  obtain ⟨Y, hY⟩ : ∃ Y, Y = (zs.map Prod.snd).getD j 0 := ⟨_, rfl⟩
  rw [← hX] at k0
  rw [← hY] at k1
  have HX := Aside0.mk hX
  have HY := Aside0.mk hY
  have HO3 := Aside0.mk ob3
  have HR2 := Aside0.mk R2
  have d1 : (0 : Int) ≤ (i : Int) := by omega
  have d2 : (i : Int) < (zs.length : Int) := by omega
  have d3 : (0 : Int) ≤ (j : Int) := by omega
  have d4 : (j : Int) < (zs.length : Int) := by omega
  clear hX hY ob3 R2 HS hl hc0
  by_cases e : i = j
  · subst e
    have exy : X = Y := HX.out.trans HY.out.symm
    subst exy
    go_region
    all_goals go_end0
    all_goals
      have hb23 : w3.heap[b2]? = some (.cells cells2 3 (0, 0)) := (HG3.out.block b2 hlt2 (by intro e; cases e; exact hne12 rfl)).trans HB2.out
      have hE : k29.E = [] := rfl
      have r1 := Kd.R_types (g := b2) (t := 3) HR3.out hb23 (by intro q hq; rw [hE] at hq; simp at hq; omega)
      have r1a := Kd.R_drew (Kd.R_mono (Kd.R_far (p := ⟨b2, i, none⟩) (Kd.R_far (p := ⟨b2, i, none⟩) r1 (fun k hk => hk.2) (.int .i64 X)) (fun k hk => hk.2) (.int .i64 X)) (fun _ _ => trivial) : Kd.R _ _ _ _ (fun _ => True) _ _)
      have p1 := Kd.R_putn HR2.out (i : Int) X
      have p2 := Kd.R_drew (Kd.R_putn p1 (i : Int) X)
      simp only [Int.toNat_natCast] at p2
      have hbel := ((((Ev.Bw.refl base w).grown HG3.out hb hb1 HB1.out (.inl rfl)).set (p := ⟨b2, i, none⟩) hb2 hb23 (.inr (.inl rfl)) (.int .i64 X)).set (p := ⟨b2, i, none⟩) hb2 (blk_set hb23 i (.int .i64 X)) (.inr (.inl rfl)) (.int .i64 X)).drew
      have ob6 := (Below.heap_setCell (w3.setCell ⟨b2, i, none⟩ (.int .i64 X)) ⟨b2, i, none⟩ (.int .i64 X) g hne2g).trans ((Below.heap_setCell w3 ⟨b2, i, none⟩ (.int .i64 X) g hne2g).trans HO3.out)
      refine ⟨rfl, ⟨ob6, HH.out.hg, ?_, ?_⟩, hbel⟩
      · have hm := Ev.map_swap Prod.fst zs i i
        rw [hm]
        exact r1a
      · have hm := Ev.map_swap Prod.snd zs i i
        rw [hm]
        have ex : (zs.map Prod.snd).getD i (Prod.snd Ev.z) = X := HX.out.symm
        have ey : (zs.map Prod.snd).getD i (Prod.snd Ev.z) = X := HY.out.symm
        rw [ex]
        exact p2
  · go_region
    all_goals go_end0
    all_goals
      have hb23 : w3.heap[b2]? = some (.cells cells2 3 (0, 0)) := (HG3.out.block b2 hlt2 (by intro e; cases e; exact hne12 rfl)).trans HB2.out
      have hE : k29.E = [] := rfl
      have r1 := Kd.R_types (g := b2) (t := 3) HR3.out hb23 (by intro q hq; rw [hE] at hq; simp at hq; omega)
      have r1a := Kd.R_drew (Kd.R_mono (Kd.R_far (p := ⟨b2, j, none⟩) (Kd.R_far (p := ⟨b2, i, none⟩) r1 (fun k hk => hk.2) (.int .i64 Y)) (fun k hk => hk.2) (.int .i64 X)) (fun _ _ => trivial) : Kd.R _ _ _ _ (fun _ => True) _ _)
      have p1 := Kd.R_putn HR2.out (i : Int) Y
      have p2 := Kd.R_drew (Kd.R_putn p1 (j : Int) X)
      simp only [Int.toNat_natCast] at p2
      have hbel := ((((Ev.Bw.refl base w).grown HG3.out hb hb1 HB1.out (.inl rfl)).set (p := ⟨b2, i, none⟩) hb2 hb23 (.inr (.inl rfl)) (.int .i64 Y)).set (p := ⟨b2, j, none⟩) hb2 (blk_set hb23 i (.int .i64 Y)) (.inr (.inl rfl)) (.int .i64 X)).drew
      have ob6 := (Below.heap_setCell (w3.setCell ⟨b2, i, none⟩ (.int .i64 Y)) ⟨b2, j, none⟩ (.int .i64 X) g hne2g).trans ((Below.heap_setCell w3 ⟨b2, i, none⟩ (.int .i64 Y) g hne2g).trans HO3.out)
      refine ⟨rfl, ⟨ob6, HH.out.hg, ?_, ?_⟩, hbel⟩
      · have hm := Ev.map_swap Prod.fst zs i j
        rw [hm]
        exact r1a
      · have hm := Ev.map_swap Prod.snd zs i j
        rw [hm]
        have ex : (zs.map Prod.snd).getD i (Prod.snd Ev.z) = X := HX.out.symm
        have ey : (zs.map Prod.snd).getD j (Prod.snd Ev.z) = Y := HY.out.symm
        rw [ex, ey]
        exact p2
/-! ### ev_pop: function 1028 (by hand) -/
theorem Ev.ne29 : ∀ q, q ∈ 29 :: k29.E → q ≠ 54 := by
  intro q hq
  have hE : k29.E = [] := rfl
  rw [hE] at hq
  simp at hq
  omega
theorem Ev.ne3 : ∀ q, q ∈ 3 :: (Kd.int .i64).E → q ≠ 54 := by
  intro q hq
  simp [Kd.int, Kd.scalar] at hq
  omega
set_option maxHeartbeats 4000000 in
set_option maxRecDepth 100000 in
theorem Ev.popC (zs : List Ev.E) (m base g : Nat) (v1 v2 : Value) (w : World) (h : Ev.Hp w base g zs v1 v2) (hm : zs.length = m + 1) (hz : zs.length ≤ 1000000) (hb : base ≤ w.heap.size) :
    Calls Try.prog 43 #[.pointer (some ⟨g, 0, none⟩)] w fun e w' => ∃ u1 u2, e = .returned (.iface 29 (.agg #[.string (zs.getD m Ev.z).1.f0, .int .i64 (zs.getD m Ev.z).1.f1, .int .i64 (zs.getD m Ev.z).1.f2, .bool (zs.getD m Ev.z).1.f3])) ∧ Ev.Hp w' base g (zs.take m) u1 u2 ∧ Ev.Bw base w w' := by
  obtain ⟨b1, c1, rfl, hn1, hb1, hlt1, ⟨cells1, hh1⟩, hr1⟩ := h.row1 (by omega)
  obtain ⟨b2, c2, rfl, hn2, hb2, hlt2, ⟨cells2, hh2⟩, _⟩ := h.row2 (by omega)
  have hc0 := h.c0
  have hc1 := h.c1
  obtain ⟨i0, i1, i2, i3⟩ := hr1 m (by omega)
  obtain ⟨X, hX⟩ : ∃ X, X = zs.getD m Ev.z := ⟨_, rfl⟩
  rw [← hX] at i0 i1 i2 i3 ⊢
  have hne1g : g ≠ b1 := by rintro rfl; rw [h.ob] at hh1; cases hh1
  have hne2g : g ≠ b2 := by rintro rfl; rw [h.ob] at hh2; cases hh2
  have HH := Aside0.mk h
  have hltg : g < w.heap.size := (Array.getElem?_eq_some_iff.1 h.ob).1
  have hfz : ∀ k, w.frozen? ⟨g, k, none⟩ = false := fun k => by simp [World.frozen?, h.ob]
  clear hr1 h hX
  have d0 : wrap64 ((zs.length : Int) - 1) = (m : Int) := by rw [Hw.w64 _ (by omega) (by omega)]; omega
  have d1 : (0 : Int) ≤ (m : Int) := by omega
  have d2 : (m : Int) < (zs.length : Int) := by omega
  have d3 : (m : Int) ≤ (c1 : Int) := by omega
  have d4 : (m : Int) ≤ (c2 : Int) := by omega
  have d5 : (m : Int).toNat = m := by omega
  go_enter Try.func43, Try.ntmps43
  go_wp2
  obtain ⟨W5, hW5⟩ : ∃ W5, W5 = w.alloc (.cells #[.string X.1.f0, .int .i64 X.1.f1, .int .i64 X.1.f2, .bool X.1.f3] 29) := ⟨_, rfl⟩
  have q0 : W5.cell? ⟨w.heap.size, 0, none⟩ = some (.string X.1.f0) := by rw [hW5]; simp
  have q1 : W5.cell? ⟨w.heap.size, 1, none⟩ = some (.int .i64 X.1.f1) := by rw [hW5]; simp
  have q2 : W5.cell? ⟨w.heap.size, 2, none⟩ = some (.int .i64 X.1.f2) := by rw [hW5]; simp
  have q3 : W5.cell? ⟨w.heap.size, 3, none⟩ = some (.bool X.1.f3) := by rw [hW5]; simp
  have p0 : W5.cell? ⟨g, 0, none⟩ = some (.slice (some ⟨b1, 0, none⟩) (m + 1) c1) := by rw [hW5, ← hm]; exact Hw.cell_al hc0 _
  have p1 : W5.cell? ⟨g, 1, none⟩ = some (.slice (some ⟨b2, 0, none⟩) (m + 1) c2) := by rw [hW5, ← hm]; exact Hw.cell_al hc1 _
  have fz : ∀ k, W5.frozen? ⟨g, k, none⟩ = false := fun k => by rw [hW5]; exact Hw.frozen_al hltg (hfz k) _
  have ng : g ≠ w.heap.size := by omega
  have ng' : w.heap.size ≠ g := by omega
  rw [← hW5]
  have HW5 := Aside0.mk hW5
  clear hW5 hfz hc0 hc1 i0 i1 i2 i3
  have HN := Aside0.mk hb
  generalize w.heap.size = n0 at hlt1 hlt2 hltg q0 q1 q2 q3 ng ng' ⊢
  go_region
  all_goals go_wp2
  all_goals go_ret
  all_goals
    have ob5 : W5.heap[g]? = some (.cells #[.slice (some ⟨b1, 0, none⟩) zs.length c1, .slice (some ⟨b2, 0, none⟩) zs.length c2] 54 (0, 0)) := by rw [HW5.out]; exact Hw.blk_al HH.out.ob _
    have r1 : Kd.R k29 29 W5 base (fun _ => True) (.slice (some ⟨b1, 0, none⟩) zs.length c1) (zs.map Prod.fst) := by rw [HW5.out]; exact Kd.R_alloc HH.out.r1 _
    have r2 : Kd.R (Kd.int .i64) 3 W5 base (fun _ => True) (.slice (some ⟨b2, 0, none⟩) zs.length c2) (zs.map Prod.snd) := by rw [HW5.out]; exact Kd.R_alloc HH.out.r2 _
    have hbl : Ev.Bw base w W5 := by rw [HW5.out]; exact (Ev.Bw.refl base w).alloc HN.out _
    have ob6 := blk_set ob5 0 (.slice (some ⟨b1, 0, none⟩) m c1)
    have ob7 := blk_set ob6 1 (.slice (some ⟨b2, 0, none⟩) m c2)
    have r3 := Kd.R_drew (Kd.R_set (Kd.R_set r1 ob5 (Ev.ne29) 0 (.slice (some ⟨b1, 0, none⟩) m c1)) ob6 (Ev.ne29) 1 (.slice (some ⟨b2, 0, none⟩) m c2))
    have r4 := Kd.R_drew (Kd.R_set (Kd.R_set r2 ob5 (Ev.ne3) 0 (.slice (some ⟨b1, 0, none⟩) m c1)) ob6 (Ev.ne3) 1 (.slice (some ⟨b2, 0, none⟩) m c2))
    have r5 := Kd.R_take r3 (m := m) (by rw [List.length_map]; omega)
    have r6 := Kd.R_take r4 (m := m) (by rw [List.length_map]; omega)
    rw [← List.map_take] at r5 r6
    have hg6 : Ev.Bw base w ((W5.setCell ⟨g, 0, none⟩ (.slice (some ⟨b1, 0, none⟩) m c1)).setCell ⟨g, 1, none⟩ (.slice (some ⟨b2, 0, none⟩) m c2)).drew := ((hbl.set (p := ⟨g, 0, none⟩) HH.out.hg ob5 (.inr (.inr rfl)) _).set (p := ⟨g, 1, none⟩) HH.out.hg ob6 (.inr (.inr rfl)) _).drew
    exact ⟨_, _, rfl, ⟨ob7, HH.out.hg, r5, r6⟩, hg6⟩
/-! ### ev_down: function 1029 (by hand) -/
def Ev.kid (zs : List Ev.E) (n i : Nat) : Nat := if 2 * i + 2 < n ∧ Ev.lt (zs.getD (2 * i + 2) Ev.z) (zs.getD (2 * i + 1) Ev.z) = true then 2 * i + 2 else 2 * i + 1
theorem Ev.kid_gt (zs : List Ev.E) (n i : Nat) : i < Ev.kid zs n i := by unfold Ev.kid; split <;> omega
theorem Ev.kid_lt (zs : List Ev.E) (n i : Nat) (h : 2 * i + 1 < n) : Ev.kid zs n i < n := by unfold Ev.kid; split <;> omega
def Ev.down (zs : List Ev.E) (n i : Nat) : List Ev.E :=
  if h : 2 * i + 1 < n then
    if Ev.lt (zs.getD (Ev.kid zs n i) Ev.z) (zs.getD i Ev.z) = true then Ev.down (Ev.swap zs i (Ev.kid zs n i)) n (Ev.kid zs n i) else zs
  else zs
termination_by n - i
decreasing_by have := Ev.kid_gt zs n i; have := Ev.kid_lt zs n i h; omega
theorem Ev.down_go {zs : List Ev.E} {n i : Nat} (h : 2 * i + 1 < n) (hl : Ev.lt (zs.getD (Ev.kid zs n i) Ev.z) (zs.getD i Ev.z) = true) : Ev.down zs n i = Ev.down (Ev.swap zs i (Ev.kid zs n i)) n (Ev.kid zs n i) := by
  rw [Ev.down, dif_pos h, if_pos hl]
theorem Ev.down_end {zs : List Ev.E} {n i : Nat} (h : ¬ 2 * i + 1 < n) : Ev.down zs n i = zs := by
  rw [Ev.down, dif_neg h]
theorem Ev.down_stay {zs : List Ev.E} {n i : Nat} (hl : Ev.lt (zs.getD (Ev.kid zs n i) Ev.z) (zs.getD i Ev.z) = false) : Ev.down zs n i = zs := by
  rw [Ev.down]
  split
  · rw [if_neg (by rw [hl]; decide)]
  · rfl
def Ev.Bl (e : Ending) : Prop := ∃ b : Bool, e = .returned (.bool b)
theorem Ev.bl (b : Bool) : Ev.Bl (.returned (.bool b)) := ⟨b, rfl⟩
theorem Ev.lessI (zs : List Ev.E) (i j : Nat) (base g : Nat) (v1 v2 : Value) (w : World) (x y : Int) (hx : x = (i : Int)) (hy : y = (j : Int)) (h : Ev.Hp w base g zs v1 v2) (hi : i < zs.length) (hj : j < zs.length) (hz : zs.length ≤ 1000000) :
    Calls Try.prog 42 #[.pointer (some ⟨g, 0, none⟩), .int .i64 x, .int .i64 y] w fun e w' => e = .returned (.bool (Ev.lt (zs.getD i Ev.z) (zs.getD j Ev.z))) ∧ Below w.heap.size w w' := by
  subst hx
  subst hy
  exact Ev.less zs i j base g v1 v2 w h hi hj hz
theorem Ev.swapI (zs : List Ev.E) (i j base g : Nat) (v1 v2 : Value) (w : World) (x y : Int) (hx : x = (i : Int)) (hy : y = (j : Int)) (h : Ev.Hp w base g zs v1 v2) (hi : i < zs.length) (hj : j < zs.length) (hz : zs.length ≤ 1000000) (hb : base ≤ w.heap.size) :
    Calls Try.prog 44 #[.pointer (some ⟨g, 0, none⟩), .int .i64 x, .int .i64 y] w fun e w' => e = .returned (.tuple #[]) ∧ Ev.Hp w' base g (Ev.swap zs i j) v1 v2 ∧ Ev.Bw base w w' := by
  subst hx
  subst hy
  exact Ev.swapC zs i j base g v1 v2 w h hi hj hz hb
theorem Ev.kid_cases (zs : List Ev.E) (n k : Nat) : ∃ A : Bool, Ev.lt (zs.getD (2 * k + 2) Ev.z) (zs.getD (2 * k + 1) Ev.z) = A ∧ ((2 * k + 2 < n ∧ A = true ∧ Ev.kid zs n k = 2 * k + 2) ∨ (2 * k + 2 < n ∧ A = false ∧ Ev.kid zs n k = 2 * k + 1) ∨ (¬ 2 * k + 2 < n ∧ Ev.kid zs n k = 2 * k + 1)) := by
  refine ⟨_, rfl, ?_⟩
  unfold Ev.kid
  by_cases hq : 2 * k + 2 < n
  · cases hl : Ev.lt (zs.getD (2 * k + 2) Ev.z) (zs.getD (2 * k + 1) Ev.z)
    · exact .inr (.inl ⟨hq, rfl, if_neg (fun h => by simp at h)⟩)
    · exact .inl ⟨hq, rfl, if_pos ⟨hq, rfl⟩⟩
  · exact .inr (.inr ⟨hq, if_neg (fun h => hq h.1)⟩)
set_option maxHeartbeats 4000000 in
set_option maxRecDepth 100000 in
theorem Ev.downC (zs : List Ev.E) (i n base g : Nat) (v1 v2 : Value) (w : World) (h : Ev.Hp w base g zs v1 v2) (hi : i ≤ n) (hn : n ≤ zs.length) (hz : zs.length ≤ 1000000) (hb : base ≤ w.heap.size) :
    Calls Try.prog 25 #[.iface 49 (.pointer (some ⟨g, 0, none⟩)), .int .i64 (i : Int), .int .i64 (n : Int)] w fun e w' => Ev.Bl e ∧ Ev.Hp w' base g (Ev.down zs n i) v1 v2 ∧ Ev.Bw base w w' := by
  have hm1 : ∀ w : World, (method 183 49 (.pointer (some ⟨g, 0, none⟩)) "Less").run Try.prog w = .ok (42, .pointer (some ⟨g, 0, none⟩)) w := fun _ => by kernel_rfl
  have hm2 : ∀ w : World, (method 183 49 (.pointer (some ⟨g, 0, none⟩)) "Swap").run Try.prog w = .ok (44, .pointer (some ⟨g, 0, none⟩)) w := fun _ => by kernel_rfl
  have HL := Aside0.mk (fun zs i j w => Ev.lessI zs i j base g v1 v2 w)
  have HS := Aside0.mk (fun zs i j w => Ev.swapI zs i j base g v1 v2 w)
  have HH := Aside0.mk h
  clear h
  go_enter Try.func25, Try.ntmps25
  go_wp2_with (fail)
  go_loopg [7] n (fun gg v7 wq => ∃ (k : Nat) (ys : List Ev.E), v7 = .int .i64 (k : Int) ∧ k ≤ n ∧ n - k ≤ gg ∧ ys.length = zs.length ∧ Aside0 (Ev.down ys n k = Ev.down zs n i) ∧ Aside0 (Ev.Hp wq base g ys v1 v2) ∧ Aside0 (Ev.Bw base w wq))
  case atStart => exact ⟨i, zs, rfl, hi, by omega, rfl, ⟨rfl⟩, ⟨HH.out⟩, ⟨Ev.Bw.refl _ _⟩⟩
  case round =>
    obtain ⟨k, ys, rfl, hk, hgg, hyl, HD, HP, HB⟩ := hrel
    by_cases hA : 2 * k + 1 < n
    · have cA : 2 * (k : Int) + 1 < (n : Int) := by omega
      obtain ⟨j, hj, hjk, hjn⟩ : ∃ j, Ev.kid ys n k = j ∧ k < j ∧ j < n := ⟨_, rfl, Ev.kid_gt ys n k, Ev.kid_lt ys n k hA⟩
      have HG := Aside0.mk (fun h => Ev.down_go (zs := ys) (n := n) (i := k) hA h)
      have HT := Aside0.mk (fun h => Ev.down_stay (zs := ys) (n := n) (i := k) h)
      rw [hj] at HG HT
      obtain ⟨C, hC⟩ : ∃ C, Ev.lt (ys.getD j Ev.z) (ys.getD k Ev.z) = C := ⟨_, rfl⟩
      rw [hC] at HG HT
      have HC := Aside0.mk hC
      obtain ⟨A, hA1, hA2⟩ := Ev.kid_cases ys n k
      rw [hj] at hA2
      have HA1 := Aside0.mk hA1
      clear hA1 hC hj
      have l1 : 2 * k + 1 < ys.length := by omega
      have lj : j < ys.length := by omega
      have lk : k < ys.length := by omega
      have lz : ys.length ≤ 1000000 := by omega
      have X2 : Aside0 (2 * (k : Int) + 1 + 1 = ((2 * k + 2 : Nat) : Int)) := ⟨by omega⟩
      have X1 : Aside0 (2 * (k : Int) + 1 = ((2 * k + 1 : Nat) : Int)) := ⟨by omega⟩
      rcases hA2 with ⟨hq, rfl, rfl⟩ | ⟨hq, rfl, rfl⟩ | ⟨hq, rfl⟩
      · have cq : 2 * (k : Int) + 1 + 1 < (n : Int) := by omega
        cases C
        · go_wp2_with (go_at_call 42; (first | with_reducible refine (HL.out ys (2 * k + 2) (2 * k + 1) _ _ _ X2.out X1.out HP.out (by omega) (by omega) lz).mono ?_ | with_reducible refine (HL.out ys (2 * k + 2) k _ _ _ X2.out rfl HP.out lj lk lz).mono ?_); rintro e w3 ⟨he, hb3⟩; (first | rw [HA1.out] at he | rw [HC.out] at he); subst he; have HP := Aside0.mk (HP.out.below hb3); have HB := Aside0.mk (HB.out.trans (Ev.Bw.of hb3 (Nat.le_trans hb HB.out.size))); clear hb3)
          go_ret
          exact ⟨Ev.bl _, by rw [← HD.out, HT.out (by trivial)]; exact HP.out, HB.out⟩
        · obtain ⟨gk, rfl⟩ : ∃ q, gk = q + 1 := by
            cases gk with
            | zero => omega
            | succ q => exact ⟨q, rfl⟩
          go_wp2_with (first | (go_at_call 42; (first | with_reducible refine (HL.out ys (2 * k + 2) (2 * k + 1) _ _ _ X2.out X1.out HP.out (by omega) (by omega) lz).mono ?_ | with_reducible refine (HL.out ys (2 * k + 2) k _ _ _ X2.out rfl HP.out lj lk lz).mono ?_); rintro e w3 ⟨he, hb3⟩; (first | rw [HA1.out] at he | rw [HC.out] at he); subst he; have HP := Aside0.mk (HP.out.below hb3); have HB := Aside0.mk (HB.out.trans (Ev.Bw.of hb3 (Nat.le_trans hb HB.out.size))); clear hb3) | (go_at_call 44; with_reducible refine (HS.out ys k (2 * k + 2) _ _ _ rfl X2.out HP.out lk lj lz (Nat.le_trans hb HB.out.size)).mono ?_; rintro e w3 ⟨rfl, hp3, hb3⟩; have HP := Aside0.mk hp3; have HB := Aside0.mk (HB.out.trans hb3); clear hp3 hb3))
          go_roundg gk
          case measure => omega
          case rel => exact ⟨(2 * k + 2), Ev.swap ys k (2 * k + 2), congrArg _ X2.out, by omega, by omega, by rw [Ev.swap_len]; exact hyl, ⟨by rw [← HD.out, HG.out (by trivial)]⟩, HP, HB⟩
      · have cq : 2 * (k : Int) + 1 + 1 < (n : Int) := by omega
        cases C
        · go_wp2_with (go_at_call 42; (first | with_reducible refine (HL.out ys (2 * k + 2) (2 * k + 1) _ _ _ X2.out X1.out HP.out (by omega) (by omega) lz).mono ?_ | with_reducible refine (HL.out ys (2 * k + 1) k _ _ _ X1.out rfl HP.out lj lk lz).mono ?_); rintro e w3 ⟨he, hb3⟩; (first | rw [HA1.out] at he | rw [HC.out] at he); subst he; have HP := Aside0.mk (HP.out.below hb3); have HB := Aside0.mk (HB.out.trans (Ev.Bw.of hb3 (Nat.le_trans hb HB.out.size))); clear hb3)
          go_ret
          exact ⟨Ev.bl _, by rw [← HD.out, HT.out (by trivial)]; exact HP.out, HB.out⟩
        · obtain ⟨gk, rfl⟩ : ∃ q, gk = q + 1 := by
            cases gk with
            | zero => omega
            | succ q => exact ⟨q, rfl⟩
          go_wp2_with (first | (go_at_call 42; (first | with_reducible refine (HL.out ys (2 * k + 2) (2 * k + 1) _ _ _ X2.out X1.out HP.out (by omega) (by omega) lz).mono ?_ | with_reducible refine (HL.out ys (2 * k + 1) k _ _ _ X1.out rfl HP.out lj lk lz).mono ?_); rintro e w3 ⟨he, hb3⟩; (first | rw [HA1.out] at he | rw [HC.out] at he); subst he; have HP := Aside0.mk (HP.out.below hb3); have HB := Aside0.mk (HB.out.trans (Ev.Bw.of hb3 (Nat.le_trans hb HB.out.size))); clear hb3) | (go_at_call 44; with_reducible refine (HS.out ys k (2 * k + 1) _ _ _ rfl X1.out HP.out lk lj lz (Nat.le_trans hb HB.out.size)).mono ?_; rintro e w3 ⟨rfl, hp3, hb3⟩; have HP := Aside0.mk hp3; have HB := Aside0.mk (HB.out.trans hb3); clear hp3 hb3))
          go_roundg gk
          case measure => omega
          case rel => exact ⟨(2 * k + 1), Ev.swap ys k (2 * k + 1), congrArg _ X1.out, by omega, by omega, by rw [Ev.swap_len]; exact hyl, ⟨by rw [← HD.out, HG.out (by trivial)]⟩, HP, HB⟩
      · have cq : ¬ 2 * (k : Int) + 1 + 1 < (n : Int) := by omega
        cases C
        · go_wp2_with (go_at_call 42; with_reducible refine (HL.out ys (2 * k + 1) k _ _ _ X1.out rfl HP.out lj lk lz).mono ?_; rintro e w3 ⟨he, hb3⟩; (first | rw [HA1.out] at he | rw [HC.out] at he); subst he; have HP := Aside0.mk (HP.out.below hb3); have HB := Aside0.mk (HB.out.trans (Ev.Bw.of hb3 (Nat.le_trans hb HB.out.size))); clear hb3)
          go_ret
          exact ⟨Ev.bl _, by rw [← HD.out, HT.out (by trivial)]; exact HP.out, HB.out⟩
        · obtain ⟨gk, rfl⟩ : ∃ q, gk = q + 1 := by
            cases gk with
            | zero => omega
            | succ q => exact ⟨q, rfl⟩
          go_wp2_with (first | (go_at_call 42; with_reducible refine (HL.out ys (2 * k + 1) k _ _ _ X1.out rfl HP.out lj lk lz).mono ?_; rintro e w3 ⟨he, hb3⟩; (first | rw [HA1.out] at he | rw [HC.out] at he); subst he; have HP := Aside0.mk (HP.out.below hb3); have HB := Aside0.mk (HB.out.trans (Ev.Bw.of hb3 (Nat.le_trans hb HB.out.size))); clear hb3) | (go_at_call 44; with_reducible refine (HS.out ys k (2 * k + 1) _ _ _ rfl X1.out HP.out lk lj lz (Nat.le_trans hb HB.out.size)).mono ?_; rintro e w3 ⟨rfl, hp3, hb3⟩; have HP := Aside0.mk hp3; have HB := Aside0.mk (HB.out.trans hb3); clear hp3 hb3))
          go_roundg gk
          case measure => omega
          case rel => exact ⟨(2 * k + 1), Ev.swap ys k (2 * k + 1), congrArg _ X1.out, by omega, by omega, by rw [Ev.swap_len]; exact hyl, ⟨by rw [← HD.out, HG.out (by trivial)]⟩, HP, HB⟩
    · have cA : ¬ 2 * (k : Int) + 1 < (n : Int) := by omega
      go_wp2_with (fail)
      go_ret
      exact ⟨Ev.bl _, by rw [← HD.out, Ev.down_end hA]; exact HP.out, HB.out⟩
/-! ### ev_init: function 1030 (by hand) -/
theorem Ev.lenM (g : Nat) (v1 : Value) (w : World) (h : w.cell? ⟨g, 0, none⟩ = some v1) : (method 183 49 (.pointer (some ⟨g, 0, none⟩)) "Len").run Try.prog w = .ok (20, .agg #[v1]) w := by
  have h1 : (method 183 49 (.pointer (some ⟨g, 0, none⟩)) "Len").run Try.prog w = (do let v ← loadVar 51 ⟨g, 0, none⟩; pure (20, v) : Sem (Nat × Value)).run Try.prog w := by kernel_rfl
  rw [h1]
  have hagg : (isAgg 51).run Try.prog w = .ok true w := by kernel_rfl
  have hsz : (sizeOf 51).run Try.prog w = .ok 1 w := by kernel_rfl
  have hld : (loadCells ⟨g, 0, none⟩ 1).run Try.prog w = .ok #[v1] w := run_loadCells_list w ⟨g, 0, none⟩ [v1] (by intro j v hj; cases j with | zero => cases hj; exact h | succ j => simp at hj)
  simp only [loadVar, Sem.run_bind, hagg, hsz, hld, Result.andThen_ok, Sem.run_pure, if_true]
theorem Ev.down_len (n : Nat) : ∀ (i : Nat) (zs : List Ev.E), (Ev.down zs n i).length = zs.length := by
  intro i zs
  induction hm : n - i using Nat.strongRecOn generalizing i zs with
  | _ m ih =>
    by_cases h : 2 * i + 1 < n
    · cases hl : Ev.lt (zs.getD (Ev.kid zs n i) Ev.z) (zs.getD i Ev.z)
      · rw [Ev.down_stay hl]
      · have h1 := Ev.kid_gt zs n i
        have h2 := Ev.kid_lt zs n i h
        rw [Ev.down_go h hl, ih (n - Ev.kid zs n i) (by omega) (Ev.kid zs n i) (Ev.swap zs i (Ev.kid zs n i)) rfl, Ev.swap_len]
    · rw [Ev.down_end h]
def Ev.inits (n : Nat) : Nat → List Ev.E → List Ev.E
  | 0, zs => zs
  | k + 1, zs => Ev.inits n k (Ev.down zs n k)
theorem Ev.inits_len (n : Nat) : ∀ (k : Nat) (zs : List Ev.E), (Ev.inits n k zs).length = zs.length
  | 0, _ => rfl
  | k + 1, zs => by rw [Ev.inits, Ev.inits_len n k, Ev.down_len]
theorem Ev.downI (zs : List Ev.E) (i n base g : Nat) (v1 v2 : Value) (w : World) (x y : Int) (hx : x = (i : Int)) (hy : y = (n : Int)) (h : Ev.Hp w base g zs v1 v2) (hi : i ≤ n) (hn : n ≤ zs.length) (hz : zs.length ≤ 1000000) (hb : base ≤ w.heap.size) :
    Calls Try.prog 25 #[.iface 49 (.pointer (some ⟨g, 0, none⟩)), .int .i64 x, .int .i64 y] w fun e w' => Ev.Bl e ∧ Ev.Hp w' base g (Ev.down zs n i) v1 v2 ∧ Ev.Bw base w w' := by
  subst hx
  subst hy
  exact Ev.downC zs i n base g v1 v2 w h hi hn hz hb
set_option maxHeartbeats 4000000 in
set_option maxRecDepth 100000 in
theorem Ev.initC (zs : List Ev.E) (base g : Nat) (v1 v2 : Value) (w : World) (h : Ev.Hp w base g zs v1 v2) (hz : zs.length ≤ 1000000) (hb : base ≤ w.heap.size) :
    Calls Try.prog 19 #[.iface 49 (.pointer (some ⟨g, 0, none⟩))] w fun e w' => e = .returned (.tuple #[]) ∧ Ev.Hp w' base g (Ev.inits zs.length (zs.length / 2) zs) v1 v2 ∧ Ev.Bw base w w' := by
  obtain ⟨A, c1, rfl⟩ := Kd.R_slice h.r1
  have hl : (zs.map Prod.fst).length = zs.length := List.length_map _
  rw [hl] at h ⊢
  have hm1 := Ev.lenM g _ w h.c0
  have HM := Aside0.mk (Ev.len v2 zs.length c1 A w)
  have HD := Aside0.mk (fun ys i n w => Ev.downI ys i n base g (.slice A zs.length c1) v2 w)
  have HH := Aside0.mk h
  clear h
  go_enter Try.func19, Try.ntmps19
  go_wp2_with (go_at_call 20; with_reducible refine HM.out.mono ?_; rintro e w3 ⟨rfl, hb3⟩; have HP := Aside0.mk (HH.out.below hb3); have HB := Aside0.mk (Ev.Bw.of hb3 hb); clear hb3)
  clear hm1
  go_loopg [3] (zs.length / 2) (fun gg v3 wq => ∃ (k : Nat) (x : Int) (ys : List Ev.E), v3 = .int .i64 x ∧ x = (k : Int) - 1 ∧ k ≤ gg ∧ k ≤ zs.length ∧ ys.length = zs.length ∧ Aside0 (Ev.inits zs.length k ys = Ev.inits zs.length (zs.length / 2) zs) ∧ Aside0 (Ev.Hp wq base g ys (.slice A zs.length c1) v2) ∧ Aside0 (Ev.Bw base w wq))
  case atStart => exact ⟨zs.length / 2, _, zs, rfl, by omega, by omega, by omega, rfl, ⟨rfl⟩, HP, HB⟩
  case round =>
    obtain ⟨k, x, ys, rfl, hx, hk, hkn, hyl, HI, HP, HB⟩ := hrel
    cases k with
    | zero =>
      have hx0 : x < 0 := by omega
      go_wp2_with (fail)
      go_end0
      exact ⟨rfl, by rw [← HI.out]; exact HP.out, HB.out⟩
    | succ q =>
      have hxq : x = (q : Int) := by omega
      subst hxq
      have h0 : (0 : Int) ≤ (q : Int) := by omega
      have hq : q ≤ zs.length := by omega
      have hzl : zs.length ≤ ys.length := by omega
      have hyz : ys.length ≤ 1000000 := by omega
      clear hx
      obtain ⟨gk, rfl⟩ : ∃ q, gk = q + 1 := by
        cases gk with
        | zero => omega
        | succ q => exact ⟨q, rfl⟩
      go_wp2_with (go_at_call 25; (with_reducible refine (HD.out ys q zs.length _ _ _ rfl rfl HP.out hq hzl hyz (Nat.le_trans hb HB.out.size)).mono ?_); rintro e w3 ⟨⟨b, rfl⟩, hp3, hb3⟩; have HP := Aside0.mk hp3; have HB := Aside0.mk (HB.out.trans hb3); clear hp3 hb3)
      go_roundg gk
      case measure => omega
      case rel => exact ⟨q, _, Ev.down ys zs.length q, rfl, by omega, by omega, by omega, by rw [Ev.down_len]; exact hyl, HI, HP, HB⟩
/-! ### ev_hpop: function 1031 (by hand) -/
set_option maxHeartbeats 4000000 in
set_option maxRecDepth 100000 in
theorem Ev.hpopC (zs : List Ev.E) (m base g : Nat) (v1 v2 : Value) (w : World) (h : Ev.Hp w base g zs v1 v2) (hm : zs.length = m + 1) (hz : zs.length ≤ 1000000) (hb : base ≤ w.heap.size) (ys : List Ev.E) (hys : Ev.down (Ev.swap zs 0 m) m 0 = ys) :
    Calls Try.prog 21 #[.iface 49 (.pointer (some ⟨g, 0, none⟩))] w fun e w' => ∃ u1 u2, e = .returned (.iface 29 (.agg #[.string (ys.getD m Ev.z).1.f0, .int .i64 (ys.getD m Ev.z).1.f1, .int .i64 (ys.getD m Ev.z).1.f2, .bool (ys.getD m Ev.z).1.f3])) ∧ Ev.Hp w' base g (ys.take m) u1 u2 ∧ Ev.Bw base w w' := by
  obtain ⟨A, c1, rfl⟩ := Kd.R_slice h.r1
  have hl : (zs.map Prod.fst).length = zs.length := List.length_map _
  rw [hl] at h
  have hm1 := Ev.lenM g _ w h.c0
  have hm2 : ∀ w : World, (method 183 49 (.pointer (some ⟨g, 0, none⟩)) "Swap").run Try.prog w = .ok (44, .pointer (some ⟨g, 0, none⟩)) w := fun _ => by kernel_rfl
  have hm3 : ∀ w : World, (method 183 49 (.pointer (some ⟨g, 0, none⟩)) "Pop").run Try.prog w = .ok (43, .pointer (some ⟨g, 0, none⟩)) w := fun _ => by kernel_rfl
  have HM := Aside0.mk (Ev.len v2 zs.length c1 A w)
  have HD := Aside0.mk (fun zs i n w => Ev.downI zs i n base g (.slice A (m + 1) c1) v2 w)
  have HS := Aside0.mk (fun zs i j w => Ev.swapI zs i j base g (.slice A (m + 1) c1) v2 w)
  have HQ := Aside0.mk (fun zs m w => Ev.popC zs m base g (.slice A (m + 1) c1) v2 w)
  have hyl : ys.length = m + 1 := by rw [← hys, Ev.down_len, Ev.swap_len, hm]
  have HY := Aside0.mk hys
  rw [hm] at h HM hm1
  have HP := Aside0.mk h
  obtain ⟨X, hX⟩ : ∃ X, X = ys.getD m Ev.z := ⟨_, rfl⟩
  rw [← hX]
  have HX := Aside0.mk hX
  clear hX
  have d0 : wrap64 (((m + 1 : Nat) : Int) - 1) = (m : Int) := by rw [Hw.w64 _ (by omega) (by omega)]; omega
  have HB := Aside0.mk (Ev.Bw.refl base w)
  clear h hys
  go_enter Try.func21, Try.ntmps21
  have k0 : 0 < zs.length := by omega
  have k1 : m < zs.length := by omega
  have sl : (Ev.swap zs 0 m).length = m + 1 := by rw [Ev.swap_len, hm]
  have k2 : m ≤ (Ev.swap zs 0 m).length := by omega
  have k3 : (Ev.swap zs 0 m).length ≤ 1000000 := by omega
  have k4 : ys.length ≤ 1000000 := by omega
  have X0 : Aside0 ((0 : Int) = ((0 : Nat) : Int)) := ⟨rfl⟩
  clear sl
  go_wp2_with (first
    | (go_at_call 20; (with_reducible refine HM.out.mono ?_); rintro e w3 ⟨rfl, hb3⟩; have HP := Aside0.mk (HP.out.below hb3); have HB := Aside0.mk (Ev.Bw.of hb3 hb); clear hb3)
    | (go_at_call 44; (with_reducible refine (HS.out zs 0 m _ _ _ X0.out rfl HP.out k0 k1 hz (Nat.le_trans hb HB.out.size)).mono ?_); rintro e w3 ⟨rfl, hp3, hb3⟩; have HP := Aside0.mk hp3; have HB := Aside0.mk (HB.out.trans hb3); clear hp3 hb3)
    | (go_at_call 25; (with_reducible refine (HD.out (Ev.swap zs 0 m) 0 m _ _ _ X0.out rfl HP.out (Nat.zero_le _) k2 k3 (Nat.le_trans hb HB.out.size)).mono ?_); rintro e w3 ⟨⟨b, rfl⟩, hp3, hb3⟩; rw [HY.out] at hp3; have HP := Aside0.mk hp3; have HB := Aside0.mk (HB.out.trans hb3); clear hp3 hb3)
    | (go_at_call 43; (with_reducible refine (HQ.out ys m _ HP.out hyl k4 (Nat.le_trans hb HB.out.size)).mono ?_); rintro e w3 ⟨u1, u2, he, hp3, hb3⟩; rw [← HX.out] at he; subst he; have HP := Aside0.mk hp3; have HB := Aside0.mk (HB.out.trans hb3); clear hp3 hb3))
  go_ret
  exact ⟨_, _, rfl, HP.out, HB.out⟩
/-! ### ev_app: function 1032 (by hand) -/
/-- append of one element, of which the cells lie in block gb, onto a row of the call's own. -/
theorem Ev.app_step {α : Type} (d : Kd α) {ops : Array Oper} {o : Oper} {a : Act} {Q : Exit → Act → World → Prop} {K : Act → World → Prop} {E : Prop} {W : World} (base : Nat) (hw : Region.wanted o (yielded ops a.tmps) = true) (s x : Operand) (t e : TypeId) (z : Value) (bytes : Nat)
    (ho : o.op = .call { callee := .builtin .append, args := #[s, x], argTypes := #[t, t] })
    (ht : Try.prog.underlying t = some (.slice e)) (hinfo : (Try.prog.info? e).map (fun i => (i.zero, i.size, i.bytes)) = some (some z, d.sz, bytes)) (hz : z.cells.size = d.sz) (hs0 : 0 < d.sz) (hb0 : 0 < bytes)
    (v : Value) (xs : List α) (p : α) (cs : List Value) (gb : Nat) (hs : a.eval s = v) (hx : a.eval x = .slice (some ⟨gb, 0, none⟩) 1 1)
    (hblk : W.heap[gb]? = some (.cells cs.toArray e (0, 0)))
    (hp : d.M W base (fun _ => False) p cs) (HO : d.R e W base (fun _ => True) v xs) (hbase : base ≤ W.heap.size) (hl : (xs.length + 1) * bytes ≤ 140737488355328)
    (h : ∀ v1 w1, d.R e w1 base (fun _ => True) v1 (xs ++ [p]) → W.grownBy w1 v.ownBlock → K (a.put o.dst v1) w1) :
    if Region.wanted o (yielded ops a.tmps) = true then Oper.wp Try.prog o a W K Q else E := by
  obtain ⟨i0, hi, hzz⟩ := Option.map_eq_some_iff.1 hinfo
  simp only [Prod.mk.injEq] at hzz
  obtain ⟨hz0, hz1, hz2⟩ := hzz
  have hlen : xs.length + 1 ≤ 140737488355328 := Nat.le_trans (Nat.le_mul_of_pos_right _ hb0) hl
  obtain ⟨h0, inner, hown, hr⟩ := HO
  rw [if_pos hw]
  obtain ⟨v1, w1, hrun, hown1, hg, _, hat⟩ := run_append_own_at (P := Try.prog) W base t o.type e i0 z d.sz bytes ht hi hz0 hz1 hz2 hz hs0 v xs.length inner hown ⟨gb, 0, none⟩ 1 1 cs (by rw [d.K_len (d.K_of_M hp)]; simp)
    (by simpa using World.news_of_block (cs := cs.toArray) (t := e) (fr := (0, 0)) hblk) (d.K_one (d.K_of_M hp)) (by simp only [maxLen]; omega) hl hbase
  unfold Oper.wp execOp
  simp only [ho, resolve, invoke, builtin, Sem.run_bind, Sem.run_pure, Result.andThen_ok, List.map_toArray, List.map_cons, List.map_nil, hs, hx, hrun]
  refine h v1 w1 (Kd.R_appended h0 hr hp (fun _ hk => hk.elim) (fun _ _ => trivial) hown1 hg ?_) hg
  rcases hat with hat | hat
  · exact .inl hat
  · exact .inr ⟨_, hat, Nat.le_refl _⟩
theorem Ev.Bw.grownR {base t0 : Nat} {row : Option Nat} {a w w' : World} (h : Ev.Bw base a w) (hg : w.grownBy w' row) (hb : base ≤ w.heap.size) (hbb : ∀ k, row = some k → base ≤ k) (hty : ∀ k, row = some k → ∃ cs, w.heap[k]? = some (.cells cs t0 (0, 0))) (ht : t0 = 29 ∨ t0 = 3 ∨ t0 = 54) : Ev.Bw base a w' :=
  ⟨h.b.grown hg hb hbb, fun k cells t e h1 h2 h3 => by
    have e1 := h.f k cells t e h1 h2 h3
    rw [← e1]
    have e2 := e1.trans e
    refine hg.block k (Array.getElem?_eq_some_iff.1 e2).1 ?_
    intro e3
    obtain ⟨cs, hcs⟩ := hty k e3.symm
    rw [hcs] at e2
    injection e2 with e2
    injection e2 with _ e2
    subst e2
    rcases ht with ht | ht | ht
    · exact h1 ht
    · exact h2 ht
    · exact h3 ht⟩
/-- While the two appends run, in whatever order. -/
structure Ev.J (W W' : World) (base g bx : Nat) (x : S29) (v1 v2 u1 : Value) (xs : List S29) (ys : List Int) : Prop where
  ob : W'.heap[g]? = some (.cells #[v1, v2] 54 (0, 0))
  xb : W'.heap[bx]? = some (.cells #[.string x.f0, .int .i64 x.f1, .int .i64 x.f2, .bool x.f3] 29 (0, 0))
  r1 : Kd.R k29 29 W' base (fun _ => True) u1 xs
  r2 : Kd.R (Kd.int .i64) 3 W' base (fun _ => True) v2 ys
  hb : base ≤ W'.heap.size
  bw : Ev.Bw base W W'
section
variable {W W' : World} {base g bx : Nat} {x : S29} {v1 v2 u1 : Value} {xs : List S29} {ys : List Int}
theorem Ev.J.s0 (h : Ev.J W W' base g bx x v1 v2 u1 xs ys) : W'.cell? ⟨g, 0, none⟩ = some v1 := by simp [World.cell?, h.ob]
theorem Ev.J.s1 (h : Ev.J W W' base g bx x v1 v2 u1 xs ys) : W'.cell? ⟨g, 1, none⟩ = some v2 := by simp [World.cell?, h.ob]
theorem Ev.J.s2 (h : Ev.J W W' base g bx x v1 v2 u1 xs ys) : W'.cell? ⟨bx, 0, none⟩ = some (.string x.f0) := by simp [World.cell?, h.xb]
theorem Ev.J.s3 (h : Ev.J W W' base g bx x v1 v2 u1 xs ys) : W'.cell? ⟨bx, 1, none⟩ = some (.int .i64 x.f1) := by simp [World.cell?, h.xb]
theorem Ev.J.s4 (h : Ev.J W W' base g bx x v1 v2 u1 xs ys) : W'.cell? ⟨bx, 2, none⟩ = some (.int .i64 x.f2) := by simp [World.cell?, h.xb]
theorem Ev.J.s5 (h : Ev.J W W' base g bx x v1 v2 u1 xs ys) : W'.cell? ⟨bx, 3, none⟩ = some (.bool x.f3) := by simp [World.cell?, h.xb]
theorem Ev.J.fz (h : Ev.J W W' base g bx x v1 v2 u1 xs ys) (k : Nat) : W'.frozen? ⟨g, k, none⟩ = false := by simp [World.frozen?, h.ob]
theorem Ev.J.alloc (h : Ev.J W W' base g bx x v1 v2 u1 xs ys) (o : Obj) : Ev.J W (W'.alloc o) base g bx x v1 v2 u1 xs ys :=
  ⟨Hw.blk_al h.ob o, Hw.blk_al h.xb o, Kd.R_alloc h.r1 o, Kd.R_alloc h.r2 o, Nat.le_trans h.hb (World.grownBy_alloc W' o none).size, h.bw.alloc h.hb o⟩
/-- Another kind of block than the row that is appended to. -/
theorem Ev.apart {w1 : World} {v : Value} {b t t0 : Nat} {cs : Array Value} (hg : W'.grownBy w1 v.ownBlock) (hty : ∀ k, v.ownBlock = some k → ∃ cs, W'.heap[k]? = some (.cells cs t0 (0, 0))) (hb : W'.heap[b]? = some (.cells cs t (0, 0))) (ht : t ≠ t0) : w1.heap[b]? = some (.cells cs t (0, 0)) := by
  refine (hg.block b (Array.getElem?_eq_some_iff.1 hb).1 ?_).trans hb
  intro e
  obtain ⟨cs', h'⟩ := hty b e.symm
  rw [hb] at h'
  injection h' with h'
  injection h' with _ h'
  exact ht h'
theorem Ev.J.app1 (h : Ev.J W W' base g bx x v1 v2 v1 xs ys) (hbx : some bx ≠ v1.ownBlock) {w1 : World} {u : Value} {zs : List S29} (hr : Kd.R k29 29 w1 base (fun _ => True) u zs) (hg : W'.grownBy w1 v1.ownBlock) : Ev.J W w1 base g bx x v1 v2 u zs ys :=
  ⟨Ev.apart hg (Kd.R_typed h.r1) h.ob (by decide), (hg.block bx (Array.getElem?_eq_some_iff.1 h.xb).1 hbx).trans h.xb, hr, Kd.R_over' h.r2 (Kd.R_typed h.r1) (by intro q hq; simp [Kd.int, Kd.scalar] at hq; omega) hg, Nat.le_trans h.hb hg.size, h.bw.grownR hg h.hb (Kd.R_base h.r1) (Kd.R_typed h.r1) (.inl rfl)⟩
/-- Both rows are longer by one, and are put in their places. -/
theorem Ev.J.app2 {zs : List Ev.E} {i : Int} (h : Ev.J W W' base g bx x v1 v2 u1 (zs.map Prod.fst ++ [x]) (zs.map Prod.snd)) (hbg : base ≤ g) {w1 : World} {u2 : Value} (hr : Kd.R (Kd.int .i64) 3 w1 base (fun _ => True) u2 (zs.map Prod.snd ++ [i])) (hg : W'.grownBy w1 v2.ownBlock) :
    Ev.Hp ((w1.setCell ⟨g, 0, none⟩ u1).setCell ⟨g, 1, none⟩ u2) base g (zs ++ [(x, i)]) u1 u2 ∧ Ev.Bw base W ((w1.setCell ⟨g, 0, none⟩ u1).setCell ⟨g, 1, none⟩ u2) := by
  have ob1 := Ev.apart hg (Kd.R_typed h.r2) h.ob (by decide)
  have r1 := Kd.R_over' h.r1 (Kd.R_typed h.r2) (by
    intro q hq
    have hE : k29.E = [] := rfl
    rw [hE] at hq
    simp at hq
    omega) hg
  have bw1 := h.bw.grownR hg h.hb (Kd.R_base h.r2) (Kd.R_typed h.r2) (.inr (.inl rfl))
  have ob2 := blk_set ob1 0 u1
  have ob3 := blk_set ob2 1 u2
  refine ⟨⟨ob3, hbg, ?_, ?_⟩, (bw1.set (p := ⟨g, 0, none⟩) hbg ob1 (.inr (.inr rfl)) u1).set (p := ⟨g, 1, none⟩) hbg ob2 (.inr (.inr rfl)) u2⟩
  · rw [List.map_append]
    exact Kd.R_set (Kd.R_set r1 ob1 Ev.ne29 0 u1) ob2 Ev.ne29 1 u2
  · rw [List.map_append]
    exact Kd.R_set (Kd.R_set hr ob1 Ev.ne3 0 u1) ob2 Ev.ne3 1 u2
theorem Ev.J.ob2 (h : Ev.J W W' base g bx x v1 v2 u1 xs ys) {w1 : World} (hg : W'.grownBy w1 v2.ownBlock) : w1.heap[g]? = some (.cells #[v1, v2] 54 (0, 0)) := Ev.apart hg (Kd.R_typed h.r2) h.ob (by decide)
end

-- NOT PRINTED: function 19 (heap_Init)

/-! ### evict_entries_Len: function 20 -/
def evict_entries_Len.f (l0_0 : List (S29)) : Option (Int) := some (l0_0.length : Int)
set_option maxHeartbeats 8000000 in
set_option maxRecDepth 100000 in
theorem evict_entries_Len.calls (A0_0 : Option Addr) (c0_0 : Nat) (l0_0 : List (S29)) (r : Int) (w : World) (hr0_0 : Kd.C k29 w A0_0 l0_0.length l0_0) (hc0_0 : l0_0.length ≤ c0_0) (h : evict_entries_Len.f l0_0 = some r) :
    Calls Try.prog 20 #[.agg #[.slice A0_0 l0_0.length c0_0]] w fun e w' => e = .returned (.int .i64 r) ∧ Below w.heap.size w w' := by
  have hu51 := Try.underlying51
  have HR0_0 := Aside0.mk hr0_0
  have HC0_0 := Aside0.mk hc0_0
  clear hr0_0 hc0_0
  have HB := Aside0.mk (Below.refl w.heap.size w)
  have H : (some (l0_0.length : Int)) = some r := h
  clear h
  obtain rfl := Option.some.inj H
  go_enter Try.func20, Try.ntmps20
  go_wp2_with (first | ((with_reducible refine gate_dst (N := 1) rfl ?_); refine box_event ?hg (N := 1) ?hd (cs := #[.slice A0_0 l0_0.length c0_0]) (t := 51) ?hr ?_; (case hd => rfl); (case hg => rfl); (case hr => first | (go_simp; done) | (go_simp; rfl)); intro gb122 hg w2 hbox hb; have n0_ := Aside0.mk (below_step (by repeat (first | (with_reducible first | exact HB.out | apply below_alloc | apply pw_below_drewN | apply below_drew1) | exact HB.out)) hb); have n1_ := Aside0.mk (hbox); have n2_ := Aside0.mk ((by rw [hg]; exact (below_size (by repeat (first | (with_reducible first | exact HB.out | apply below_alloc | apply pw_below_drewN | apply below_drew1) | exact HB.out))) : w.heap.size ≤ gb122)); have n3_ := Aside0.mk ((by rw [hg]; exact (below_size (by repeat (first | (with_reducible first | exact HB.out | apply below_alloc | apply pw_below_drewN | apply below_drew1) | exact HB.out))) : w.heap.size ≤ gb122)); clear HB; have HB := n0_; have BK122 := n1_; have GW122 := n2_; have GE122 := n3_; clear n0_ n1_ n2_ n3_; clear hb hbox hg; have hcz3_0 : w2.cell? ⟨gb122, 0, none⟩ = some (.slice A0_0 l0_0.length c0_0) := (blk_cell BK122.out 0).trans rfl; have hfz3_0 := blk_frozen BK122.out 0))
  go_ret
  exact ⟨by first | rfl | (simp [errW_none, errW_some] <;> rfl) | (simp [*, errW_none, errW_some] <;> rfl), by repeat (first | (with_reducible first | exact HB.out | apply below_alloc | apply pw_below_drewN | apply below_drew1 | refine below_set ?_ GE122.out) | exact HB.out)⟩

-- NOT PRINTED: function 21 (heap_Pop)

end Go.Proofs.Ytbpblefamjmkjaa.PEvictFew

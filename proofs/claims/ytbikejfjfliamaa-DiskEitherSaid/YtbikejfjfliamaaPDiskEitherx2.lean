-- By a program of this session (wip/tools/mkprint.py), for this claim.
import Derived.Test.YtbikejfjfliamaaPDiskEitherx0
import Derived.Test.YtbikejfjfliamaaPDiskEitherx1
namespace Go.Proofs.Ytbikejfjfliamaa.PDiskEither
open Go.RowKit Go.Proofs.YtbikejfjfliamaaW.PrintWords Go.Proofs.YtbikejfjfliamaaW.PrintLast Go.Proofs.YtbikejfjfliamaaW.PrintMore
attribute [local go_sem] max2_int min2_int max_two min_two max_three min_three max_four min_four   -- for this text's walks alone
set_option linter.unusedVariables false
set_option linter.unusedSimpArgs false

/-! ### disk_Disk_Write: function 13 (by hand) -/
theorem disk_Disk_Write.index (l : List Int) (a : Int) (hl : l.length ≤ 1000000) (d : Nat) : ∀ (k i : Nat), i + d = l.length → d < k → ∃ r, slices_Index_int_int.l0 k l a (l.length : Int) (i : Int) = some r ∧ decide (r ≥ 0) = decide (a ∈ l.drop i) := by
  induction d with
  | zero =>
    intro k i hi hk
    obtain ⟨k, rfl⟩ : ∃ m, k = m + 1 := ⟨k - 1, by omega⟩
    refine ⟨-1, ?_, ?_⟩
    · rw [slices_Index_int_int.l0, if_neg (by omega)]
    · rw [List.drop_eq_nil_of_le (by omega)]
      simp
  | succ d ih =>
    intro k i hi hk
    obtain ⟨k, rfl⟩ : ∃ m, k = m + 1 := ⟨k - 1, by omega⟩
    have hlt : i < l.length := by omega
    have er : rd l (i : Int) = l[i] := by
      unfold rd
      simp [List.getD_eq_getElem?_getD, hlt]
    rw [slices_Index_int_int.l0, if_pos (by omega), if_pos (by omega), if_pos (by omega), er, List.drop_eq_getElem_cons hlt]
    by_cases h : a = l[i]
    · refine ⟨(i : Int), by rw [if_pos h], ?_⟩
      rw [decide_eq_true (by omega), decide_eq_true (by rw [h]; exact List.mem_cons_self)]
    · obtain ⟨r, h1, h2⟩ := ih k (i + 1) (by omega) (by omega)
      refine ⟨r, ?_, ?_⟩
      · rw [if_neg h, Hw.wnat i (by omega)]
        exact h1
      · rw [h2]
        congr 1
        rw [List.mem_cons]
        exact propext ⟨fun q => .inr q, fun q => q.resolve_left h⟩
theorem disk_Disk_Write.has (l : List Int) (a : Int) (hl : l.length ≤ 1000000) : slices_Contains_int_int.f (l.length + 1) l a = some (decide (a ∈ l)) := by
  obtain ⟨r, h1, h2⟩ := disk_Disk_Write.index l a hl l.length (l.length + 1) 0 (by omega) (by omega)
  unfold slices_Contains_int_int.f slices_Index_int_int.f
  rw [show ((0 : Int)) = ((0 : Nat) : Int) from rfl, h1, Option.bind_some]
  rw [List.drop_zero] at h2
  exact congrArg some h2
/-! ### disk_write: function 1013 (by hand) -/
set_option maxHeartbeats 8000000 in
set_option maxRecDepth 100000 in
theorem disk_Disk_Write.calls (s : Dk.S) (base g mb n : Nat) (ov : Value) (i : Int) (x : ByteArray) (w : World) (h : Dk.D w base g s mb n ov) (hin : Dk.In s) (hn : n ≤ 1000000) :
    Calls Try.prog 13 #[.pointer (some ⟨g, 0, none⟩), .int .i64 i, .string x] w fun e w' => e = .returned (.int .i64 (Dk.writ s i x).2) ∧ (∃ ov' n', n' ≤ n + 1 ∧ Dk.D w' base g (Dk.writ s i x).1 mb n' ov') ∧ Dk.B base w w' := by
  have m2 : w.cell? ⟨g, 258, none⟩ = some (.bool s.off) := h.at 2
  have m6 : w.cell? ⟨g, 262, none⟩ = some (.int .i64 s.many) := h.at 6
  have f6 := h.fz 262
  obtain ⟨A, c, rfl⟩ := Kd.R_slice h.ro
  have hl : (s.l.map Prod.fst).length = s.l.length := List.length_map _
  rw [hl] at h
  have HH := Aside0.mk h
  have HDIE := Aside0.mk (fun s base g mb n ov w => disk_Disk_die.calls s base g mb n ov w)
  have HDUE := Aside0.mk (fun b k cs t n w => disk_due.calls b k cs t n w)
  have n1 : 0 ≤ s.many := hin.2.2.2.1.1
  have n2 : s.many ≤ 90000 := hin.2.2.2.1.2
  have u1 := hin.1
  have u2 := hin.2.1
  have HIN := Aside0.mk hin
  have HN := Aside0.mk hn
  clear h hin hn
  cases ho : s.off
  case true =>
    rw [ho] at m2
    have hb : Dk.writ s i x = (s, 33) := by unfold Dk.writ; rw [ho, if_pos rfl]
    rw [hb]
    clear hb
    go_enter Try.func13, Try.ntmps13
    go_wp2_with (fail)
    go_ret
    exact ⟨rfl, ⟨_, _, Nat.le_succ _, HH.out⟩, Dk.B.refl _ _⟩
  case false =>
    rw [ho] at m2
    by_cases hi : i < 0 ∨ 256 ≤ i
    · have hb : Dk.writ s i x = (s, 30) := by unfold Dk.writ; rw [ho, if_neg (by decide), if_pos hi]
      rw [hb]
      clear hb
      by_cases c1 : i < 0
      · clear hi
        go_enter Try.func13, Try.ntmps13
        go_wp2_with (fail)
        go_ret
        exact ⟨rfl, ⟨_, _, Nat.le_succ _, HH.out⟩, Dk.B.refl _ _⟩
      · have c2 : 256 ≤ i := hi.resolve_left c1
        have c3 : decide (i < 0) = false := decide_eq_false c1
        clear hi
        go_enter Try.func13, Try.ntmps13
        go_wp2_with (fail)
        go_ret
        exact ⟨rfl, ⟨_, _, Nat.le_succ _, HH.out⟩, Dk.B.refl _ _⟩
    · obtain ⟨xn, rfl⟩ : ∃ xn : Nat, i = (xn : Int) := ⟨i.toNat, by omega⟩
      have x1 : (0 : Int) ≤ (xn : Int) := by omega
      have x2 : (xn : Int) < 256 := by omega
      have x3 : xn < 256 := by omega
      have x4 : ¬ (xn : Int) < 0 := by omega
      have x5 : ¬ 256 ≤ (xn : Int) := by omega
      by_cases hs : 128 < x.size
      · have hb : Dk.writ s (xn : Int) x = (s, 31) := by unfold Dk.writ; rw [ho, if_neg (by decide), if_neg hi, if_pos hs]
        rw [hb]
        clear hb hi
        have hs1 : (128 : Int) < (x.size : Int) := by omega
        go_enter Try.func13, Try.ntmps13
        go_wp2_with (fail)
        go_ret
        exact ⟨rfl, ⟨_, _, Nat.le_succ _, HH.out⟩, Dk.B.refl _ _⟩
      · have hs1 : ¬ (128 : Int) < (x.size : Int) := by omega
        have hb : Dk.writ s (xn : Int) x = (if s.fail = 1 ∧ s.cut ≠ 1 then (Dk.tick s, 32) else if s.cut = 1 then (Dk.dieS (Dk.putS (Dk.tick s) (xn : Int) x), 33) else (Dk.putS (Dk.tick s) (xn : Int) x, 0)) := by
          unfold Dk.writ
          rw [ho, if_neg (by decide), if_neg hi, if_neg hs]
        rw [hb]
        clear hb hi
        obtain ⟨R, hR⟩ : ∃ R, (if s.fail = 1 ∧ s.cut ≠ 1 then (Dk.tick s, (32 : Int)) else if s.cut = 1 then (Dk.dieS (Dk.putS (Dk.tick s) (xn : Int) x), 33) else (Dk.putS (Dk.tick s) (xn : Int) x, 0)) = R := ⟨_, rfl⟩
        rw [hR]
        have HRR := Aside0.mk hR
        clear hR
        obtain ⟨bc, hbc⟩ : ∃ b, decide (s.cut = 1) = b := ⟨_, rfl⟩
        obtain ⟨bf, hbf⟩ : ∃ b, decide (s.fail = 1) = b := ⟨_, rfl⟩
        have HBC := Aside0.mk hbc
        have HBF := Aside0.mk hbf
        go_enter Try.func13, Try.ntmps13
        go_wp2_with (fail)
        obtain ⟨hp1, hp2⟩ := Dk.D.put (s' := { s with many := s.many + 1 }) HH.out 262 (.int .i64 (s.many + 1)) (by rw [Dk.arr_set s mb _ 6 _ HH.out.hl]; rfl) HH.out.hl rfl
        have HP := Aside0.mk hp1
        have HB := Aside0.mk hp2
        clear hp1 hp2 m6 f6 m2
        generalize w.setCell ⟨g, 262, none⟩ (.int .i64 (s.many + 1)) = W5 at HP HB ⊢
        have HP := Aside0.mk HP.out.drew
        have HO := Aside0.mk HP.out.ob
        have HK1 := Aside0.mk (Dk.arr259 { s with many := s.many + 1 } mb (.slice A s.l.length c) HH.out.hl)
        have HK2 := Aside0.mk (Dk.arr260 { s with many := s.many + 1 } mb (.slice A s.l.length c) (.int .i64 (Dk.dn s.cut)) HH.out.hl)
        have hn1 : -9223372036854775808 ≤ s.cut ∧ s.cut < 9223372036854775808 := by omega
        have hn2 : -9223372036854775808 ≤ s.fail ∧ s.fail < 9223372036854775808 := by omega
        go_region_held3 (fun _ => True) (trivial) ((first | (go_at_call 27; (with_reducible refine (HDUE.out g 259 _ _ _ _ HO.out HK1.out hn1).mono ?_); rintro e w3 ⟨rfl, ho3, hg3⟩; have HO3 := Aside0.mk ho3; have HG3 := Aside0.mk hg3; clear ho3 hg3) | (go_at_call 27; (with_reducible refine (HDUE.out g 260 _ _ _ _ HO3.out HK2.out hn2).mono ?_); rintro e w4 ⟨rfl, ho4, hg4⟩; have HO4 := Aside0.mk ho4; have HG4 := Aside0.mk hg4; clear ho4 hg4)))
        have HT := Aside0.mk (Dk.D.ticked HP.out HO3.out HG3.out HO4.out HG4.out)
        have HB := Aside0.mk ((HB.out.trans (Dk.B.drew (Dk.B.refl _ _))).trans HT.out.2)
        have HT := Aside0.mk HT.out.1
        clear HO HK1 HK2 HP HO3 HO4 HG3 HG4
        have t1 : w4.cell? ⟨g, 257, none⟩ = some (.slice A s.l.length c) := HT.out.at 1
        have HCR : Aside0 (Kd.C (Kd.int .i64) w4 A (s.l.map Prod.fst).length (s.l.map Prod.fst)) := ⟨(Kd.R_reads' HT.out.ro).2.2⟩
        have HCL : Aside0 ((s.l.map Prod.fst).length ≤ c) := ⟨by rw [hl]; exact (Kd.R_reads' HT.out.ro).2.1⟩
        have hll : s.l.length ≤ 100000 := by have := HIN.out.2.2.2.2.1; omega
        have hch := disk_Disk_Write.has (s.l.map Prod.fst) (xn : Int) (by rw [hl]; omega)
        obtain ⟨bk, hbk⟩ : ∃ b, decide ((xn : Int) ∈ s.l.map Prod.fst) = b := ⟨_, rfl⟩
        rw [hbk] at hch
        have HCH := Aside0.mk hch
        have HBK := Aside0.mk hbk
        have HCON : Aside0 (Calls Try.prog 28 #[.slice A s.l.length c, .int .i64 (xn : Int)] w4 fun e w' => e = .returned (.bool bk) ∧ Drawn0 w4 w') := ⟨by
          have h9 := slices_Contains_int_int.calls _ A c _ (xn : Int) _ _ HCR.out HCL.out HCH.out
          rw [hl] at h9
          exact h9⟩
        have HLT : Aside0 (∀ sec : List ByteArray, ({ Dk.tick s with sec := sec } : Dk.S).l.length ≤ 100000) := ⟨fun _ => hll⟩
        have HKT : Aside0 (∀ sec : List ByteArray, 0 ≤ ({ Dk.tick s with sec := sec } : Dk.S).keep ∧ ({ Dk.tick s with sec := sec } : Dk.S).keep < 18446744073709551616) := ⟨fun _ => HIN.out.2.2.1⟩
        clear hch hbk hbc hbf
        by_cases hearly : bf = true ∧ bc = false
        · obtain ⟨rfl, rfl⟩ := hearly
          have hRR : R = (Dk.tick s, 32) := by rw [← HRR.out, if_pos ⟨of_decide_eq_true HBF.out, of_decide_eq_false HBC.out⟩]
          subst hRR
          go_wp2_with (fail)
          go_ret
          exact ⟨rfl, ⟨_, _, Nat.le_succ _, HT.out⟩, HB.out⟩
        · have hnf : ¬ (s.fail = 1 ∧ s.cut ≠ 1) := fun q => hearly ⟨by rw [← HBF.out]; exact decide_eq_true q.1, by rw [← HBC.out]; exact decide_eq_false q.2⟩
          have hRR : R = (if s.cut = 1 then (Dk.dieS (Dk.putS (Dk.tick s) (xn : Int) x), 33) else (Dk.putS (Dk.tick s) (xn : Int) x, 0)) := by rw [← HRR.out, if_neg hnf]
          have HR2 := Aside0.mk hRR
          have HEA := Aside0.mk hearly
          clear hnf hRR hearly
          cases bk
          · have hno : ¬ (xn : Int) ∈ s.l.map Prod.fst := of_decide_eq_false HBK.out
            obtain ⟨y, hy⟩ : ∃ y, s.sec.getD xn ⟨#[]⟩ = y := ⟨_, rfl⟩
            have hys : y.size ≤ 128 := by
              rw [← hy, List.getD_eq_getElem?_getD, List.getElem?_eq_getElem (by rw [HH.out.hl]; exact x3)]
              exact HIN.out.2.2.2.2.2.1 _ (List.getElem_mem _)
            have hput : Dk.putS (Dk.tick s) (xn : Int) x = { Dk.tick s with l := s.l ++ [((xn : Int), y)], sec := s.sec.set xn x } := by
              unfold Dk.putS
              rw [if_neg (show ¬ (xn : Int) ∈ (Dk.tick s).l.map Prod.fst from hno), ← hy]
              rfl
            rw [hput] at HR2
            clear hput
            have HNO := Aside0.mk hno
            have HYS := Aside0.mk hys
            have HY := Aside0.mk hy
            clear hno hys hy
            have HLM : Aside0 (s.l.length + 1 ≤ 100000) := ⟨by have := HIN.out.2.2.2.2.1; omega⟩
            cases bc
            · cases bf
              case true => exact absurd ⟨rfl, rfl⟩ HEA.out
              case false =>
                go_wp2_with (first | (go_at_call 28; (with_reducible refine HCON.out.mono ?_); rintro e w6 ⟨rfl, ⟨nd, rfl⟩⟩; have HT := Aside0.mk (HT.out.drewN nd); have HB := Aside0.mk (HB.out.drewN nd); have s1 := HT.out.sec xn x3; have s2 := HT.out.fz xn) | ((with_reducible refine gate_builtin (b := .append) (xs := #[.tmp 56, .tmp 58]) rfl ?_); (try (refine gate_guard (by rfl) ?_; dsimp only)); at_builtin; refine Kd.R_append (Kd.int .i64) (w0 := w4.drewN nd) (W := w4.drewN nd) base rfl (.tmp 56) (.tmp 58) 54 3 (.int .i64 0) 8 rfl (by kernel_rfl) (by kernel_rfl) rfl (by decide) (by decide) (.slice A s.l.length c) (s.l.map Prod.fst) (xn : Int) [.int .i64 (xn : Int)] (fun _ => True) (fun _ => False) rfl rfl rfl (fun _ hk => hk.elim) (fun _ _ => trivial) HT.out.ro (Below.refl _ _) HT.out.hb (by rw [hl]; omega) ?_; intro v1 w7 ho7 hb7 hg7 ha7; have HROW := Aside0.mk (Dk.D.row HT.out ho7 hg7); obtain ⟨A1, c1, e1⟩ := Kd.R_slice ho7; subst e1; have r257 : w7.cell? ⟨g, 257, none⟩ = some (.slice A s.l.length c) := (by rw [cell_of_row w7 g _ _ _ _ HROW.out.1]; exact Dk.arr_get (Dk.tick s) mb _ 1 HH.out.hl); have f257 : w7.frozen? ⟨g, 257, none⟩ = false := (by simp [World.frozen?, HROW.out.1]); clear ho7 hb7 hg7 ha7))
                have HE : Aside0 (((s.l.map Prod.fst) ++ [(xn : Int)]).length = s.l.length + 1) := ⟨by rw [List.length_append, hl]; rfl⟩
                rw [HE.out] at HROW
                generalize w7.setCell ⟨g, 257, none⟩ (.slice A1 (s.l.length + 1) c1) = W8 at HROW ⊢
                obtain ⟨_, hw8, hr8, hmp8, hB8, hb7⟩ := HROW.out
                have hb8 := Nat.le_trans HH.out.hb (Nat.le_trans HB.out.size hB8.size)
                obtain ⟨w9, hupd, hmp9, hg9, hes9⟩ := Dk.Mp.upd (W := W8.drew) (hmp8.kept (Hw.grown_drew W8 (some g)) HH.out.ne) (Nat.lt_of_le_of_lt HN.out (by decide)) (xn : Int) ⟨x1, x2⟩ HH.out.kk HNO.out y HYS.out
                have HMORE := Aside0.mk (Dk.D.more (W := W8.drew) (s := Dk.tick s) (i := (xn : Int)) (y := y) HH.out.hl HH.out.hg HH.out.hm HH.out.kk ⟨x1, x2⟩ hb8 hw8 (Kd.R_drew hr8) hmp9 hg9 hes9)
                have m0 : W8.drew.cell? ⟨g, 256, none⟩ = some (.map (some mb)) := by rw [cell_of_row W8.drew g _ _ _ _ hw8]; exact Dk.arr_get (Dk.tick s) mb _ 0 HH.out.hl
                have m1 : W8.drew.cell? ⟨g, xn, none⟩ = some (.string y) := by
                  rw [cell_of_row W8.drew g _ _ _ _ hw8]
                  have e := Dk.arr_low (Dk.tick s) mb (.slice A1 (s.l.length + 1) c1) xn HH.out.hl x3
                  rw [e]
                  exact congrArg (fun q => some (Value.string q)) HY.out
                have s8 := HMORE.out.1.sec xn x3
                have f8 := HMORE.out.1.fz xn
                have HBB := Aside0.mk (((HB.out.trans hB8).trans (Dk.B.drew (Dk.B.refl _ _))).trans HMORE.out.2)
                clear hw8 hr8 hmp8 hB8 hb7 hb8 hmp9 hg9 hes9 r257 f257 HROW s1 s2
                -- REGION 13 A BEGINS
                refine start_ (n := 12) (S := fun w' => w'.cell? ⟨g, 256, none⟩ = some (.map (some mb)) ∧ w'.cell? ⟨g, xn, none⟩ = some (.string y)) (ds := [11]) #[false, false, false, false, false, false, false, false, false, false, false, false] (by kernel_rfl) rfl rfl ⟨m0, m1⟩ (fun hHeld => ?_)
                refine pure_ (i := 0) (N := some 62) (v := ?_) (a' := ?_) #[true, false, false, false, false, false, false, false, false, false, false, false] rfl rfl (by kernel_rfl) (fun _ _ _ h => h) (Or.inl ⟨by rfl, ?_⟩) ?_ ?_
                rotate_left
                · intro w'
                  go_simp
                  with_reducible rfl
                rotate_left
                · simp only [Act.put, List.setIfInBounds_toArray, List.set_cons_zero, List.set_cons_succ, i64_w, i32_w]
                  rfl
                refine pure_ (i := 1) (N := some 63) (v := ?_) (a' := ?_) #[true, true, false, false, false, false, false, false, false, false, false, false] rfl rfl (by kernel_rfl) (fun _ _ _ h => h) (Or.inl ⟨by rfl, ?_⟩) ?_ ?_
                rotate_left
                · intro w'
                  go_simp
                  with_reducible rfl
                rotate_left
                · simp only [Act.put, List.setIfInBounds_toArray, List.set_cons_zero, List.set_cons_succ, i64_w, i32_w]
                  rfl
                refine pure_ (i := 2) (N := some 64) (v := ?_) (a' := ?_) #[true, true, true, false, false, false, false, false, false, false, false, false] rfl rfl (by kernel_rfl) (fun _ _ _ h => h) (Or.inl ⟨by rfl, ?_⟩) ?_ ?_
                rotate_left
                · intro w'
                  go_simp
                  with_reducible rfl
                rotate_left
                · simp only [Act.put, List.setIfInBounds_toArray, List.set_cons_zero, List.set_cons_succ, i64_w, i32_w]
                  rfl
                refine pure_ (i := 4) (N := some 66) (v := ?_) (a' := ?_) #[true, true, true, false, true, false, false, false, false, false, false, false] rfl rfl (by kernel_rfl) (fun _ _ _ h => h) (Or.inl ⟨by rfl, ?_⟩) ?_ ?_
                rotate_left
                · intro w'
                  go_simp
                  with_reducible rfl
                rotate_left
                · simp only [Act.put, List.setIfInBounds_toArray, List.set_cons_zero, List.set_cons_succ, i64_w, i32_w]
                  rfl
                refine pure_ (i := 5) (N := some 67) (v := ?_) (a' := ?_) #[true, true, true, false, true, true, false, false, false, false, false, false] rfl rfl (by kernel_rfl) (fun _ _ _ h => h) (Or.inl ⟨by rfl, ?_⟩) ?_ ?_
                rotate_left
                · intro w'
                  go_simp
                  with_reducible rfl
                rotate_left
                · simp only [Act.put, List.setIfInBounds_toArray, List.set_cons_zero, List.set_cons_succ, i64_w, i32_w]
                  rfl
                refine pure_ (i := 6) (N := some 68) (v := ?_) (a' := ?_) #[true, true, true, false, true, true, true, false, false, false, false, false] rfl rfl (by kernel_rfl) (fun _ _ _ h => h) (Or.inl ⟨by rfl, ?_⟩) ?_ ?_
                rotate_left
                · intro w'
                  go_simp
                  with_reducible rfl
                rotate_left
                · simp only [Act.put, List.setIfInBounds_toArray, List.set_cons_zero, List.set_cons_succ, i64_w, i32_w]
                  rfl
                refine pure_ (i := 7) (N := some 69) (v := ?_) (a' := ?_) #[true, true, true, false, true, true, true, true, false, false, false, false] rfl rfl (by kernel_rfl) (fun _ _ _ h => h) (Or.inl ⟨by rfl, ?_⟩) ?_ ?_
                rotate_left
                · intro w'
                  go_simp
                  with_reducible rfl
                rotate_left
                · simp only [Act.put, List.setIfInBounds_toArray, List.set_cons_zero, List.set_cons_succ, i64_w, i32_w]
                  rfl
                refine pure_ (i := 8) (N := some 70) (v := ?_) (a' := ?_) #[true, true, true, false, true, true, true, true, true, false, false, false] rfl rfl (by kernel_rfl) (fun _ _ _ h => h) (Or.inl ⟨by rfl, ?_⟩) ?_ ?_
                rotate_left
                · intro w'
                  go_simp
                  with_reducible rfl
                rotate_left
                · simp only [Act.put, List.setIfInBounds_toArray, List.set_cons_zero, List.set_cons_succ, i64_w, i32_w]
                  rfl
                refine pure_ (i := 9) (N := some 71) (v := ?_) (a' := ?_) #[true, true, true, false, true, true, true, true, true, true, false, false] rfl rfl (by kernel_rfl) (fun _ _ _ h => h) (Or.inl ⟨by rfl, ?_⟩) ?_ ?_
                rotate_left
                · intro w'
                  go_simp
                  with_reducible rfl
                rotate_left
                · simp only [Act.put, List.setIfInBounds_toArray, List.set_cons_zero, List.set_cons_succ, i64_w, i32_w]
                  rfl
                refine take_ (i := 3) (N := some 65) (v := ?_) (a' := ?_) #[true, true, true, true, true, true, true, true, true, true, false, false] rfl rfl (by kernel_rfl) (fun _ _ _ h => h) (Or.inl ⟨by rfl, ?_⟩) hHeld ?_ ?_
                rotate_left
                · rintro w' ⟨s0, s1⟩
                  go_simp
                  with_reducible rfl
                rotate_left
                · simp only [Act.put, List.setIfInBounds_toArray, List.set_cons_zero, List.set_cons_succ, i64_w, i32_w]
                  rfl
                refine take_ (i := 10) (N := some 72) (v := ?_) (a' := ?_) #[true, true, true, true, true, true, true, true, true, true, true, false] rfl rfl (by kernel_rfl) (fun _ _ _ h => h) (Or.inl ⟨by rfl, ?_⟩) hHeld ?_ ?_
                rotate_left
                · rintro w' ⟨s0, s1⟩
                  go_simp
                  with_reducible rfl
                rotate_left
                · simp only [Act.put, List.setIfInBounds_toArray, List.set_cons_zero, List.set_cons_succ, i64_w, i32_w]
                  rfl
                refine last_ (i := 11) (N := none) #[true, true, true, true, true, true, true, true, true, true, true, true] rfl rfl (by kernel_rfl) (by decide) (fun K hK => ?_)
                refine skip_ (w1 := ?_) (by rfl) rfl ?_ ?_
                rotate_left
                · go_simp
                  rfl
                refine hK.out _ _ ?_
                clear hK K
                refine done_ (by kernel_rfl) ?_
                -- REGION 13 A ENDS
                go_wp2_with (fail)
                go_ret
                have hRR : R = ({ Dk.tick s with l := s.l ++ [((xn : Int), y)], sec := s.sec.set xn x }, 0) := by rw [HR2.out, if_neg (of_decide_eq_false HBC.out)]
                subst hRR
                obtain ⟨p1, p2⟩ := Dk.D.put (s' := { Dk.tick s with l := s.l ++ [((xn : Int), y)], sec := s.sec.set xn x }) HMORE.out.1 xn (.string x) (Dk.arr_sec _ _ _ _ _ HMORE.out.1.hl x3) (by show (s.sec.set xn x).length = 256; rw [List.length_set]; exact HMORE.out.1.hl) rfl
                exact ⟨rfl, ⟨_, _, Nat.le_refl _, p1⟩, HBB.out.trans p2⟩
            · cases bf
              all_goals
                go_wp2_with (first | (go_at_call 28; (with_reducible refine HCON.out.mono ?_); rintro e w6 ⟨rfl, ⟨nd, rfl⟩⟩; have HT := Aside0.mk (HT.out.drewN nd); have HB := Aside0.mk (HB.out.drewN nd); have s1 := HT.out.sec xn x3; have s2 := HT.out.fz xn) | ((with_reducible refine gate_builtin (b := .append) (xs := #[.tmp 56, .tmp 58]) rfl ?_); (try (refine gate_guard (by rfl) ?_; dsimp only)); at_builtin; refine Kd.R_append (Kd.int .i64) (w0 := w4.drewN nd) (W := w4.drewN nd) base rfl (.tmp 56) (.tmp 58) 54 3 (.int .i64 0) 8 rfl (by kernel_rfl) (by kernel_rfl) rfl (by decide) (by decide) (.slice A s.l.length c) (s.l.map Prod.fst) (xn : Int) [.int .i64 (xn : Int)] (fun _ => True) (fun _ => False) rfl rfl rfl (fun _ hk => hk.elim) (fun _ _ => trivial) HT.out.ro (Below.refl _ _) HT.out.hb (by rw [hl]; omega) ?_; intro v1 w7 ho7 hb7 hg7 ha7; have HROW := Aside0.mk (Dk.D.row HT.out ho7 hg7); obtain ⟨A1, c1, e1⟩ := Kd.R_slice ho7; subst e1; have r257 : w7.cell? ⟨g, 257, none⟩ = some (.slice A s.l.length c) := (by rw [cell_of_row w7 g _ _ _ _ HROW.out.1]; exact Dk.arr_get (Dk.tick s) mb _ 1 HH.out.hl); have f257 : w7.frozen? ⟨g, 257, none⟩ = false := (by simp [World.frozen?, HROW.out.1]); clear ho7 hb7 hg7 ha7))
                have HE : Aside0 (((s.l.map Prod.fst) ++ [(xn : Int)]).length = s.l.length + 1) := ⟨by rw [List.length_append, hl]; rfl⟩
                rw [HE.out] at HROW
                generalize w7.setCell ⟨g, 257, none⟩ (.slice A1 (s.l.length + 1) c1) = W8 at HROW ⊢
                obtain ⟨_, hw8, hr8, hmp8, hB8, hb7⟩ := HROW.out
                have hb8 := Nat.le_trans HH.out.hb (Nat.le_trans HB.out.size hB8.size)
                obtain ⟨w9, hupd, hmp9, hg9, hes9⟩ := Dk.Mp.upd (W := W8.drew) (hmp8.kept (Hw.grown_drew W8 (some g)) HH.out.ne) (Nat.lt_of_le_of_lt HN.out (by decide)) (xn : Int) ⟨x1, x2⟩ HH.out.kk HNO.out y HYS.out
                have HMORE := Aside0.mk (Dk.D.more (W := W8.drew) (s := Dk.tick s) (i := (xn : Int)) (y := y) HH.out.hl HH.out.hg HH.out.hm HH.out.kk ⟨x1, x2⟩ hb8 hw8 (Kd.R_drew hr8) hmp9 hg9 hes9)
                have m0 : W8.drew.cell? ⟨g, 256, none⟩ = some (.map (some mb)) := by rw [cell_of_row W8.drew g _ _ _ _ hw8]; exact Dk.arr_get (Dk.tick s) mb _ 0 HH.out.hl
                have m1 : W8.drew.cell? ⟨g, xn, none⟩ = some (.string y) := by
                  rw [cell_of_row W8.drew g _ _ _ _ hw8]
                  have e := Dk.arr_low (Dk.tick s) mb (.slice A1 (s.l.length + 1) c1) xn HH.out.hl x3
                  rw [e]
                  exact congrArg (fun q => some (Value.string q)) HY.out
                have s8 := HMORE.out.1.sec xn x3
                have f8 := HMORE.out.1.fz xn
                have HBB := Aside0.mk (((HB.out.trans hB8).trans (Dk.B.drew (Dk.B.refl _ _))).trans HMORE.out.2)
                clear hw8 hr8 hmp8 hB8 hb7 hb8 hmp9 hg9 hes9 r257 f257 HROW s1 s2
                -- REGION 13 B BEGINS
                refine start_ (n := 12) (S := fun w' => w'.cell? ⟨g, 256, none⟩ = some (.map (some mb)) ∧ w'.cell? ⟨g, xn, none⟩ = some (.string y)) (ds := [11]) #[false, false, false, false, false, false, false, false, false, false, false, false] (by kernel_rfl) rfl rfl ⟨m0, m1⟩ (fun hHeld => ?_)
                refine pure_ (i := 0) (N := some 62) (v := ?_) (a' := ?_) #[true, false, false, false, false, false, false, false, false, false, false, false] rfl rfl (by kernel_rfl) (fun _ _ _ h => h) (Or.inl ⟨by rfl, ?_⟩) ?_ ?_
                rotate_left
                · intro w'
                  go_simp
                  with_reducible rfl
                rotate_left
                · simp only [Act.put, List.setIfInBounds_toArray, List.set_cons_zero, List.set_cons_succ, i64_w, i32_w]
                  rfl
                refine pure_ (i := 1) (N := some 63) (v := ?_) (a' := ?_) #[true, true, false, false, false, false, false, false, false, false, false, false] rfl rfl (by kernel_rfl) (fun _ _ _ h => h) (Or.inl ⟨by rfl, ?_⟩) ?_ ?_
                rotate_left
                · intro w'
                  go_simp
                  with_reducible rfl
                rotate_left
                · simp only [Act.put, List.setIfInBounds_toArray, List.set_cons_zero, List.set_cons_succ, i64_w, i32_w]
                  rfl
                refine pure_ (i := 2) (N := some 64) (v := ?_) (a' := ?_) #[true, true, true, false, false, false, false, false, false, false, false, false] rfl rfl (by kernel_rfl) (fun _ _ _ h => h) (Or.inl ⟨by rfl, ?_⟩) ?_ ?_
                rotate_left
                · intro w'
                  go_simp
                  with_reducible rfl
                rotate_left
                · simp only [Act.put, List.setIfInBounds_toArray, List.set_cons_zero, List.set_cons_succ, i64_w, i32_w]
                  rfl
                refine pure_ (i := 4) (N := some 66) (v := ?_) (a' := ?_) #[true, true, true, false, true, false, false, false, false, false, false, false] rfl rfl (by kernel_rfl) (fun _ _ _ h => h) (Or.inl ⟨by rfl, ?_⟩) ?_ ?_
                rotate_left
                · intro w'
                  go_simp
                  with_reducible rfl
                rotate_left
                · simp only [Act.put, List.setIfInBounds_toArray, List.set_cons_zero, List.set_cons_succ, i64_w, i32_w]
                  rfl
                refine pure_ (i := 5) (N := some 67) (v := ?_) (a' := ?_) #[true, true, true, false, true, true, false, false, false, false, false, false] rfl rfl (by kernel_rfl) (fun _ _ _ h => h) (Or.inl ⟨by rfl, ?_⟩) ?_ ?_
                rotate_left
                · intro w'
                  go_simp
                  with_reducible rfl
                rotate_left
                · simp only [Act.put, List.setIfInBounds_toArray, List.set_cons_zero, List.set_cons_succ, i64_w, i32_w]
                  rfl
                refine pure_ (i := 6) (N := some 68) (v := ?_) (a' := ?_) #[true, true, true, false, true, true, true, false, false, false, false, false] rfl rfl (by kernel_rfl) (fun _ _ _ h => h) (Or.inl ⟨by rfl, ?_⟩) ?_ ?_
                rotate_left
                · intro w'
                  go_simp
                  with_reducible rfl
                rotate_left
                · simp only [Act.put, List.setIfInBounds_toArray, List.set_cons_zero, List.set_cons_succ, i64_w, i32_w]
                  rfl
                refine pure_ (i := 7) (N := some 69) (v := ?_) (a' := ?_) #[true, true, true, false, true, true, true, true, false, false, false, false] rfl rfl (by kernel_rfl) (fun _ _ _ h => h) (Or.inl ⟨by rfl, ?_⟩) ?_ ?_
                rotate_left
                · intro w'
                  go_simp
                  with_reducible rfl
                rotate_left
                · simp only [Act.put, List.setIfInBounds_toArray, List.set_cons_zero, List.set_cons_succ, i64_w, i32_w]
                  rfl
                refine pure_ (i := 8) (N := some 70) (v := ?_) (a' := ?_) #[true, true, true, false, true, true, true, true, true, false, false, false] rfl rfl (by kernel_rfl) (fun _ _ _ h => h) (Or.inl ⟨by rfl, ?_⟩) ?_ ?_
                rotate_left
                · intro w'
                  go_simp
                  with_reducible rfl
                rotate_left
                · simp only [Act.put, List.setIfInBounds_toArray, List.set_cons_zero, List.set_cons_succ, i64_w, i32_w]
                  rfl
                refine pure_ (i := 9) (N := some 71) (v := ?_) (a' := ?_) #[true, true, true, false, true, true, true, true, true, true, false, false] rfl rfl (by kernel_rfl) (fun _ _ _ h => h) (Or.inl ⟨by rfl, ?_⟩) ?_ ?_
                rotate_left
                · intro w'
                  go_simp
                  with_reducible rfl
                rotate_left
                · simp only [Act.put, List.setIfInBounds_toArray, List.set_cons_zero, List.set_cons_succ, i64_w, i32_w]
                  rfl
                refine take_ (i := 3) (N := some 65) (v := ?_) (a' := ?_) #[true, true, true, true, true, true, true, true, true, true, false, false] rfl rfl (by kernel_rfl) (fun _ _ _ h => h) (Or.inl ⟨by rfl, ?_⟩) hHeld ?_ ?_
                rotate_left
                · rintro w' ⟨s0, s1⟩
                  go_simp
                  with_reducible rfl
                rotate_left
                · simp only [Act.put, List.setIfInBounds_toArray, List.set_cons_zero, List.set_cons_succ, i64_w, i32_w]
                  rfl
                refine take_ (i := 10) (N := some 72) (v := ?_) (a' := ?_) #[true, true, true, true, true, true, true, true, true, true, true, false] rfl rfl (by kernel_rfl) (fun _ _ _ h => h) (Or.inl ⟨by rfl, ?_⟩) hHeld ?_ ?_
                rotate_left
                · rintro w' ⟨s0, s1⟩
                  go_simp
                  with_reducible rfl
                rotate_left
                · simp only [Act.put, List.setIfInBounds_toArray, List.set_cons_zero, List.set_cons_succ, i64_w, i32_w]
                  rfl
                refine last_ (i := 11) (N := none) #[true, true, true, true, true, true, true, true, true, true, true, true] rfl rfl (by kernel_rfl) (by decide) (fun K hK => ?_)
                refine skip_ (w1 := ?_) (by rfl) rfl ?_ ?_
                rotate_left
                · go_simp
                  rfl
                refine hK.out _ _ ?_
                clear hK K
                refine done_ (by kernel_rfl) ?_
                -- REGION 13 B ENDS
                have hRR : R = (Dk.dieS { Dk.tick s with l := s.l ++ [((xn : Int), y)], sec := s.sec.set xn x }, 33) := by rw [HR2.out, if_pos (of_decide_eq_true HBC.out)]
                subst hRR
                have hp := Dk.D.put (s' := { Dk.tick s with l := s.l ++ [((xn : Int), y)], sec := s.sec.set xn x }) HMORE.out.1 xn (.string x) (Dk.arr_sec _ _ _ _ _ HMORE.out.1.hl x3) (by show (s.sec.set xn x).length = 256; rw [List.length_set]; exact HMORE.out.1.hl) rfl
                have HPP := Aside0.mk hp
                clear hp
                have hd := HDIE.out { Dk.tick s with l := s.l ++ [((xn : Int), y)], sec := s.sec.set xn x } base g mb (n + 1) _ _ HPP.out.1 (by show (s.l ++ [((xn : Int), y)]).length ≤ 100000; rw [List.length_append]; exact HLM.out) HIN.out.2.2.1
                have HDD := Aside0.mk hd
                clear hd
                go_wp2_with (go_at_call 29; (with_reducible refine HDD.out.mono ?_); rintro e w10 ⟨rfl, hd5, hb5⟩; have HD5 := Aside0.mk hd5; have HB5 := Aside0.mk ((HBB.out.trans HPP.out.2).trans hb5); clear hd5 hb5)
                go_ret
                exact ⟨rfl, ⟨_, _, Nat.le_refl _, HD5.out⟩, HB5.out⟩
          · have hput : Dk.putS (Dk.tick s) (xn : Int) x = { Dk.tick s with sec := s.sec.set xn x } := by
              unfold Dk.putS
              rw [if_pos (show (xn : Int) ∈ (Dk.tick s).l.map Prod.fst from of_decide_eq_true HBK.out)]
              rfl
            rw [hput] at HR2
            clear hput
            cases bc
            · have hRR : R = ({ Dk.tick s with sec := s.sec.set xn x }, 0) := by rw [HR2.out, if_neg (of_decide_eq_false HBC.out)]
              subst hRR
              cases bf
              · go_wp2_with (go_at_call 28; (with_reducible refine HCON.out.mono ?_); rintro e w6 ⟨rfl, ⟨nd, rfl⟩⟩; have HT := Aside0.mk (HT.out.drewN nd); have HB := Aside0.mk (HB.out.drewN nd); have s1 := HT.out.sec xn x3; have s2 := HT.out.fz xn)
                go_ret
                obtain ⟨p1, p2⟩ := Dk.D.put (s' := { Dk.tick s with sec := s.sec.set xn x }) HT.out xn (.string x) (Dk.arr_sec _ _ _ _ _ HT.out.hl x3) (by show (s.sec.set xn x).length = 256; rw [List.length_set]; exact HT.out.hl) rfl
                exact ⟨rfl, ⟨_, _, Nat.le_succ _, p1⟩, HB.out.trans p2⟩
              · exact absurd ⟨rfl, rfl⟩ HEA.out
            · have hRR : R = (Dk.dieS { Dk.tick s with sec := s.sec.set xn x }, 33) := by rw [HR2.out, if_pos (of_decide_eq_true HBC.out)]
              subst hRR
              cases bf
              all_goals
                have HPUT := Aside0.mk (fun (W : World) (h : Dk.D W base g (Dk.tick s) mb n (.slice A s.l.length c)) => Dk.D.put (s' := { Dk.tick s with sec := s.sec.set xn x }) h xn (.string x) (Dk.arr_sec _ _ _ _ _ h.hl x3) (by show (s.sec.set xn x).length = 256; rw [List.length_set]; exact h.hl) rfl)
                have HDIE2 := Aside0.mk (fun (W : World) (h : Dk.D W base g (Dk.tick s) mb n (.slice A s.l.length c)) => HDIE.out { Dk.tick s with sec := s.sec.set xn x } base g mb n _ _ (HPUT.out W h).1 hll HIN.out.2.2.1)
                go_wp2_with (first | (go_at_call 28; (with_reducible refine HCON.out.mono ?_); rintro e w6 ⟨rfl, ⟨nd, rfl⟩⟩; have HT := Aside0.mk (HT.out.drewN nd); have HB := Aside0.mk (HB.out.drewN nd); have s1 := HT.out.sec xn x3; have s2 := HT.out.fz xn) | (go_at_call 29; (with_reducible refine (HDIE2.out _ HT.out).mono ?_); rintro e w7 ⟨rfl, hd5, hb5⟩; have HD5 := Aside0.mk hd5; have HB5 := Aside0.mk ((HB.out.trans (HPUT.out _ HT.out).2).trans hb5); clear hd5 hb5))
                go_ret
                exact ⟨rfl, ⟨_, _, Nat.le_succ _, HD5.out⟩, HB5.out⟩

/-! ### disk_Disk_Barrier: function 15 (by hand) -/
set_option maxHeartbeats 4000000 in
set_option maxRecDepth 100000 in
theorem disk_Disk_Barrier.calls (s : Dk.S) (base g mb n : Nat) (ov : Value) (w : World) (h : Dk.D w base g s mb n ov) (hin : Dk.In s) :
    Calls Try.prog 15 #[.pointer (some ⟨g, 0, none⟩)] w fun e w' => e = .returned (.int .i64 (Dk.barr s).2) ∧ (∃ ov', Dk.D w' base g (Dk.barr s).1 mb n ov') ∧ Dk.B base w w' := by
  have m2 : w.cell? ⟨g, 258, none⟩ = some (.bool s.off) := h.at 2
  have m6 : w.cell? ⟨g, 262, none⟩ = some (.int .i64 s.many) := h.at 6
  have f6 := h.fz 262
  have HH := Aside0.mk h
  have HIN := Aside0.mk hin
  have HDIE := Aside0.mk (fun s base g mb n ov w => disk_Disk_die.calls s base g mb n ov w)
  have HSET := Aside0.mk (fun s base g mb n ov w => disk_Disk_settle.calls s base g mb n ov w)
  have HDUE := Aside0.mk (fun b k cs t n w => disk_due.calls b k cs t n w)
  have n1 : 0 ≤ s.many := hin.2.2.2.1.1
  have n2 : s.many ≤ 90000 := hin.2.2.2.1.2
  have u1 := hin.1
  have u2 := hin.2.1
  have HL : Aside0 (s.l.length ≤ 100000) := ⟨by have := hin.2.2.2.2; omega⟩
  have HKP := Aside0.mk hin.2.2.1
  clear h hin
  have HLT : Aside0 ((Dk.tick s).l.length ≤ 100000) := ⟨HL.out⟩
  have HKT : Aside0 (0 ≤ (Dk.tick s).keep ∧ (Dk.tick s).keep < 18446744073709551616) := ⟨HKP.out⟩
  cases ho : s.off
  · rw [ho] at m2
    by_cases hc : s.cut = 1
    · have hc1 : decide (s.cut = 1) = true := decide_eq_true hc
      have hb : Dk.barr s = (Dk.dieS (Dk.tick s), 33) := by unfold Dk.barr; rw [ho, if_neg (by decide), if_pos hc]
      rw [hb]
      clear hb
      go_enter Try.func15, Try.ntmps15
      go_wp2_with (fail)
      obtain ⟨hp1, hp2⟩ := Dk.D.put (s' := { s with many := s.many + 1 }) HH.out 262 (.int .i64 (s.many + 1)) (by rw [Dk.arr_set s mb _ 6 _ HH.out.hl]; rfl) HH.out.hl rfl
      have HP := Aside0.mk hp1
      have HB := Aside0.mk hp2
      clear hp1 hp2 m6 f6 m2
      generalize w.setCell ⟨g, 262, none⟩ (.int .i64 (s.many + 1)) = W5 at HP HB ⊢
      have HP := Aside0.mk HP.out.drew
      have HO := Aside0.mk HP.out.ob
      have HK1 := Aside0.mk (Dk.arr259 { s with many := s.many + 1 } mb ov HH.out.hl)
      have HK2 := Aside0.mk (Dk.arr260 { s with many := s.many + 1 } mb ov (.int .i64 (Dk.dn s.cut)) HH.out.hl)
      have hn1 : -9223372036854775808 ≤ s.cut ∧ s.cut < 9223372036854775808 := by omega
      have hn2 : -9223372036854775808 ≤ s.fail ∧ s.fail < 9223372036854775808 := by omega
      go_region_held3 (fun _ => True) (trivial) ((first | (go_at_call 27; (with_reducible refine (HDUE.out g 259 _ _ _ _ HO.out HK1.out hn1).mono ?_); rintro e w3 ⟨rfl, ho3, hg3⟩; have HO3 := Aside0.mk ho3; have HG3 := Aside0.mk hg3; clear ho3 hg3) | (go_at_call 27; (with_reducible refine (HDUE.out g 260 _ _ _ _ HO3.out HK2.out hn2).mono ?_); rintro e w4 ⟨rfl, ho4, hg4⟩; have HO4 := Aside0.mk ho4; have HG4 := Aside0.mk hg4; clear ho4 hg4)))
      have HT := Aside0.mk (Dk.D.ticked HP.out HO3.out HG3.out HO4.out HG4.out)
      clear HO HK1 HK2 HP HO3 HO4 HG3 HG4
      go_wp2_with (go_at_call 29; (with_reducible refine (HDIE.out _ base g mb n _ _ HT.out.1 HLT.out HKT.out).mono ?_); rintro e w5 ⟨rfl, hd5, hb5⟩; have HD5 := Aside0.mk hd5; have HB5 := Aside0.mk hb5; clear hd5 hb5)
      go_ret
      exact ⟨rfl, ⟨_, HD5.out⟩, (HB.out.trans (Dk.B.drew (Dk.B.refl _ _))).trans (HT.out.2.trans HB5.out)⟩
    · have hc1 : decide (s.cut = 1) = false := decide_eq_false hc
      by_cases hf : s.fail = 1
      · have hf1 : decide (s.fail = 1) = true := decide_eq_true hf
        have hb : Dk.barr s = (Dk.tick s, 32) := by unfold Dk.barr; rw [ho, if_neg (by decide), if_neg hc, if_pos hf]
        rw [hb]
        clear hb
        go_enter Try.func15, Try.ntmps15
        go_wp2_with (fail)
        obtain ⟨hp1, hp2⟩ := Dk.D.put (s' := { s with many := s.many + 1 }) HH.out 262 (.int .i64 (s.many + 1)) (by rw [Dk.arr_set s mb _ 6 _ HH.out.hl]; rfl) HH.out.hl rfl
        have HP := Aside0.mk hp1
        have HB := Aside0.mk hp2
        clear hp1 hp2 m6 f6 m2
        generalize w.setCell ⟨g, 262, none⟩ (.int .i64 (s.many + 1)) = W5 at HP HB ⊢
        have HP := Aside0.mk HP.out.drew
        have HO := Aside0.mk HP.out.ob
        have HK1 := Aside0.mk (Dk.arr259 { s with many := s.many + 1 } mb ov HH.out.hl)
        have HK2 := Aside0.mk (Dk.arr260 { s with many := s.many + 1 } mb ov (.int .i64 (Dk.dn s.cut)) HH.out.hl)
        have hn1 : -9223372036854775808 ≤ s.cut ∧ s.cut < 9223372036854775808 := by omega
        have hn2 : -9223372036854775808 ≤ s.fail ∧ s.fail < 9223372036854775808 := by omega
        go_region_held3 (fun _ => True) (trivial) ((first | (go_at_call 27; (with_reducible refine (HDUE.out g 259 _ _ _ _ HO.out HK1.out hn1).mono ?_); rintro e w3 ⟨rfl, ho3, hg3⟩; have HO3 := Aside0.mk ho3; have HG3 := Aside0.mk hg3; clear ho3 hg3) | (go_at_call 27; (with_reducible refine (HDUE.out g 260 _ _ _ _ HO3.out HK2.out hn2).mono ?_); rintro e w4 ⟨rfl, ho4, hg4⟩; have HO4 := Aside0.mk ho4; have HG4 := Aside0.mk hg4; clear ho4 hg4)))
        have HT := Aside0.mk (Dk.D.ticked HP.out HO3.out HG3.out HO4.out HG4.out)
        clear HO HK1 HK2 HP HO3 HO4 HG3 HG4
        go_wp2_with (fail)
        go_ret
        exact ⟨rfl, ⟨_, HT.out.1⟩, (HB.out.trans (Dk.B.drew (Dk.B.refl _ _))).trans HT.out.2⟩
      · have hf1 : decide (s.fail = 1) = false := decide_eq_false hf
        have hb : Dk.barr s = ({ Dk.tick s with l := [] }, 0) := by unfold Dk.barr; rw [ho, if_neg (by decide), if_neg hc, if_neg hf]
        rw [hb]
        clear hb
        go_enter Try.func15, Try.ntmps15
        go_wp2_with (fail)
        obtain ⟨hp1, hp2⟩ := Dk.D.put (s' := { s with many := s.many + 1 }) HH.out 262 (.int .i64 (s.many + 1)) (by rw [Dk.arr_set s mb _ 6 _ HH.out.hl]; rfl) HH.out.hl rfl
        have HP := Aside0.mk hp1
        have HB := Aside0.mk hp2
        clear hp1 hp2 m6 f6 m2
        generalize w.setCell ⟨g, 262, none⟩ (.int .i64 (s.many + 1)) = W5 at HP HB ⊢
        have HP := Aside0.mk HP.out.drew
        have HO := Aside0.mk HP.out.ob
        have HK1 := Aside0.mk (Dk.arr259 { s with many := s.many + 1 } mb ov HH.out.hl)
        have HK2 := Aside0.mk (Dk.arr260 { s with many := s.many + 1 } mb ov (.int .i64 (Dk.dn s.cut)) HH.out.hl)
        have hn1 : -9223372036854775808 ≤ s.cut ∧ s.cut < 9223372036854775808 := by omega
        have hn2 : -9223372036854775808 ≤ s.fail ∧ s.fail < 9223372036854775808 := by omega
        go_region_held3 (fun _ => True) (trivial) ((first | (go_at_call 27; (with_reducible refine (HDUE.out g 259 _ _ _ _ HO.out HK1.out hn1).mono ?_); rintro e w3 ⟨rfl, ho3, hg3⟩; have HO3 := Aside0.mk ho3; have HG3 := Aside0.mk hg3; clear ho3 hg3) | (go_at_call 27; (with_reducible refine (HDUE.out g 260 _ _ _ _ HO3.out HK2.out hn2).mono ?_); rintro e w4 ⟨rfl, ho4, hg4⟩; have HO4 := Aside0.mk ho4; have HG4 := Aside0.mk hg4; clear ho4 hg4)))
        have HT := Aside0.mk (Dk.D.ticked HP.out HO3.out HG3.out HO4.out HG4.out)
        clear HO HK1 HK2 HP HO3 HO4 HG3 HG4
        go_wp2_with (go_at_call 33; (with_reducible refine (HSET.out _ base g mb n _ _ HT.out.1 HLT.out).mono ?_); rintro e w5 ⟨rfl, hd5, hb5⟩; have HD5 := Aside0.mk hd5; have HB5 := Aside0.mk hb5; clear hd5 hb5)
        go_ret
        exact ⟨rfl, ⟨_, HD5.out⟩, (HB.out.trans (Dk.B.drew (Dk.B.refl _ _))).trans (HT.out.2.trans HB5.out)⟩
  · rw [ho] at m2
    have hb : Dk.barr s = (s, 33) := by unfold Dk.barr; rw [ho, if_pos rfl]
    rw [hb]
    clear hb
    go_enter Try.func15, Try.ntmps15
    go_wp2_with (fail)
    go_ret
    exact ⟨rfl, ⟨_, HH.out⟩, Dk.B.refl _ _⟩

/-! ### disk_Disk_Read: function 21 (by hand) -/
set_option maxHeartbeats 4000000 in
set_option maxRecDepth 100000 in
theorem disk_Disk_Read.calls (s : Dk.S) (base g mb n : Nat) (ov : Value) (i : Int) (w : World) (h : Dk.D w base g s mb n ov) :
    Calls Try.prog 21 #[.pointer (some ⟨g, 0, none⟩), .int .i64 i] w fun e w' => e = .returned (.tuple #[.string (Dk.read s i).1, .int .i64 (Dk.read s i).2]) ∧ w' = w := by
  have m2 : w.cell? ⟨g, 258, none⟩ = some (.bool s.off) := h.at 2
  unfold Dk.read
  cases ho : s.off
  · rw [ho] at m2
    rw [if_neg (by decide)]
    by_cases c1 : i < 0
    · rw [if_pos (.inl c1)]
      have c2 : decide (i < 0) = true := decide_eq_true c1
      clear h
      go_enter Try.func21, Try.ntmps21
      go_wp2
      go_ret2
      exact ⟨rfl, rfl⟩
    · have c2 : decide (i < 0) = false := decide_eq_false c1
      by_cases c3 : 256 ≤ i
      · rw [if_pos (.inr c3)]
        clear h
        go_enter Try.func21, Try.ntmps21
        go_wp2
        go_ret2
        exact ⟨rfl, rfl⟩
      · rw [if_neg (fun q => q.elim c1 c3)]
        obtain ⟨x, rfl⟩ : ∃ x : Nat, i = (x : Int) := ⟨i.toNat, by omega⟩
        have x1 : (0 : Int) ≤ (x : Int) := by omega
        have x2 : (x : Int) < 256 := by omega
        have m6 := h.sec x (by omega)
        rw [Int.toNat_natCast]
        clear h
        go_enter Try.func21, Try.ntmps21
        go_wp2
        go_ret2
        exact ⟨rfl, rfl⟩
  · rw [ho] at m2
    rw [if_pos rfl]
    clear h
    go_enter Try.func21, Try.ntmps21
    go_wp2
    go_ret2
    exact ⟨rfl, rfl⟩

/-! ### disk_Disk_Power: function 22 (by hand) -/
set_option maxHeartbeats 4000000 in
set_option maxRecDepth 100000 in
theorem disk_Disk_Power.calls (s : Dk.S) (base g mb n : Nat) (ov : Value) (w : World) (h : Dk.D w base g s mb n ov) :
    Calls Try.prog 22 #[.pointer (some ⟨g, 0, none⟩)] w fun e w' => e = .returned (.tuple #[]) ∧ Dk.D w' base g (Dk.powS s) mb n ov ∧ Dk.B base w w' := by
  have m2 : w.cell? ⟨g, 258, none⟩ = some (.bool s.off) := h.at 2
  have m3 : w.cell? ⟨g, 259, none⟩ = some (.int .i64 s.cut) := h.at 3
  have m4 : w.cell? ⟨g, 260, none⟩ = some (.int .i64 s.fail) := h.at 4
  have f2 := h.fz 258
  have f3 := h.fz 259
  have f4 := h.fz 260
  have HH := Aside0.mk h
  clear h
  unfold Dk.powS
  cases ho : s.off
  · rw [ho] at m2
    rw [if_neg (by decide)]
    go_enter Try.func22, Try.ntmps22
    go_wp2
    go_end0
    exact ⟨rfl, HH.out, Dk.B.refl _ _⟩
  · rw [ho] at m2
    rw [if_pos rfl]
    go_enter Try.func22, Try.ntmps22
    go_wp2
    go_end0
    obtain ⟨h1, b1⟩ := Dk.D.put (s' := { s with off := false }) HH.out 258 (.bool false) (by rw [Dk.arr_set s mb _ 2 _ HH.out.hl]; rfl) HH.out.hl rfl
    obtain ⟨h2, b2⟩ := Dk.D.put (s' := { s with off := false, cut := 0 }) h1 259 (.int .i64 0) (by rw [Dk.arr_set { s with off := false } mb _ 3 _ HH.out.hl]; rfl) HH.out.hl rfl
    obtain ⟨h3, b3⟩ := Dk.D.put (s' := { s with off := false, cut := 0, fail := 0 }) h2 260 (.int .i64 0) (by rw [Dk.arr_set { s with off := false, cut := 0 } mb _ 4 _ HH.out.hl]; rfl) HH.out.hl rfl
    exact ⟨rfl, h3, (b1.trans b2).trans b3⟩

/-! ### cubbylaw03_DiskEither: function 5 (by hand) -/
theorem cubbylaw03_DiskEither.dNew (w : World) (base : Nat) (hb : base ≤ w.heap.size) : Calls Try.prog 9 #[] w fun e w' => ∃ g, e = .returned (.pointer (some ⟨g, 0, none⟩)) ∧ Tw.D w' base g 0 Dk.S0 ∧ Below w.heap.size w w' := by
  refine (disk_New.calls w base hb).mono ?_
  rintro e w' ⟨g, mb, he, hd, hb⟩
  exact ⟨g, he, ⟨mb, 0, _, Nat.le_refl _, hd⟩, hb⟩
theorem cubbylaw03_DiskEither.dWrite (s : Dk.S) (base g n : Nat) (i : Int) (x : ByteArray) (w : World) (h : Tw.D w base g n s) (hin : Dk.In s) (hn : n ≤ 1000000) :
    Calls Try.prog 13 #[.pointer (some ⟨g, 0, none⟩), .int .i64 i, .string x] w fun e w' => e = .returned (.int .i64 (Dk.writ s i x).2) ∧ Tw.D w' base g (n + 1) ((Dk.writ s i x).1) ∧ Dk.B base w w' := by
  obtain ⟨mb, n', ov, hn', h⟩ := h
  refine (disk_Disk_Write.calls s base g mb n' ov i x w h hin (by omega)).mono ?_
  rintro e w' ⟨he, ⟨ov', n2, h2, hd⟩, hb⟩
  exact ⟨he, ⟨mb, n2, ov', by omega, hd⟩, hb⟩
theorem cubbylaw03_DiskEither.dCut (s : Dk.S) (base g n : Nat) (i k : Int) (w : World) (h : Tw.D w base g n s) :
    Calls Try.prog 11 #[.pointer (some ⟨g, 0, none⟩), .int .i64 i, .int .u64 k] w fun e w' => e = .returned (.tuple #[]) ∧ Tw.D w' base g (n + 0) (Dk.cutS s i k) ∧ Dk.B base w w' := by
  obtain ⟨mb, n', ov, hn', h⟩ := h
  refine (disk_Disk_Cut.calls s base g mb n' ov i k w h).mono ?_
  rintro e w' ⟨he, hd, hb⟩
  exact ⟨he, ⟨mb, n', ov, by omega, hd⟩, hb⟩
theorem cubbylaw03_DiskEither.dBarrier (s : Dk.S) (base g n : Nat) (w : World) (h : Tw.D w base g n s) (hin : Dk.In s) :
    Calls Try.prog 15 #[.pointer (some ⟨g, 0, none⟩)] w fun e w' => e = .returned (.int .i64 (Dk.barr s).2) ∧ Tw.D w' base g (n + 0) ((Dk.barr s).1) ∧ Dk.B base w w' := by
  obtain ⟨mb, n', ov, hn', h⟩ := h
  refine (disk_Disk_Barrier.calls s base g mb n' ov w h hin).mono ?_
  rintro e w' ⟨he, ⟨ov', hd⟩, hb⟩
  exact ⟨he, ⟨mb, n', ov', by omega, hd⟩, hb⟩
theorem cubbylaw03_DiskEither.dPower (s : Dk.S) (base g n : Nat) (w : World) (h : Tw.D w base g n s) :
    Calls Try.prog 22 #[.pointer (some ⟨g, 0, none⟩)] w fun e w' => e = .returned (.tuple #[]) ∧ Tw.D w' base g (n + 0) (Dk.powS s) ∧ Dk.B base w w' := by
  obtain ⟨mb, n', ov, hn', h⟩ := h
  refine (disk_Disk_Power.calls s base g mb n' ov w h).mono ?_
  rintro e w' ⟨he, hd, hb⟩
  exact ⟨he, ⟨mb, n', ov, by omega, hd⟩, hb⟩
theorem cubbylaw03_DiskEither.dRead (s : Dk.S) (base g n : Nat) (i : Int) (w : World) (h : Tw.D w base g n s) :
    Calls Try.prog 21 #[.pointer (some ⟨g, 0, none⟩), .int .i64 i] w fun e w' => e = .returned (.tuple #[.string (Dk.read s i).1, .int .i64 (Dk.read s i).2]) ∧ w' = w := by
  obtain ⟨mb, n', ov, hn', h⟩ := h
  exact disk_Disk_Read.calls s base g mb n' ov i w h
def cubbylaw03_DiskEither.Fit (l : List ByteArray) (k : Int) : Prop := l.length ≤ 140737488351232 ∧ (∀ x ∈ l, x.size ≤ 140737488351232) ∧ (0 ≤ k ∧ k < 18446744073709551616)
instance (l : List ByteArray) (k : Int) : Decidable (cubbylaw03_DiskEither.Fit l k) := by unfold cubbylaw03_DiskEither.Fit; infer_instance
def cubbylaw03_DiskEither.f (l0 : List ByteArray) (l1 : Int) : Option Bool := if cubbylaw03_DiskEither.Fit l0 l1 then some true else none
set_option maxHeartbeats 16000000 in
set_option maxRecDepth 100000 in
theorem cubbylaw03_DiskEither.calls (A0 : Option Addr) (c0 : Nat) (l0 : List ByteArray) (l1 : Int) (r : Bool) (w : World) (hr0 : Kd.C Kd.string w A0 l0.length l0) (hc0 : l0.length ≤ c0) (h : cubbylaw03_DiskEither.f l0 l1 = some r) :
    Calls Try.prog 5 #[.slice A0 l0.length c0, .int .u64 l1] w fun e w' => e = .returned (.bool r) ∧ Below w.heap.size w w' := by
  unfold cubbylaw03_DiskEither.f at h
  by_cases hl : cubbylaw03_DiskEither.Fit l0 l1
  case neg => rw [if_neg hl] at h; cases h
  rw [if_pos hl] at h
  obtain rfl := Option.some.inj h
  unfold cubbylaw03_DiskEither.Fit at hl
  clear h
  obtain ⟨hlen, hsz, hk⟩ := hl
  have HR0 := Aside0.mk hr0
  have HSZ := Aside0.mk hsz
  clear hr0 hsz
  go_enter Try.func5, Try.ntmps5
  go_wp2_with (fail)
  go_loopg [5, 6] l0.length (fun gg v5 v6 wq => ∃ (i : Nat) (n : Int), v5 = .int .i64 n ∧ v6 = .int .i64 (i : Int) ∧ i ≤ l0.length ∧ l0.length - i ≤ gg ∧ 0 ≤ n ∧ n ≤ 140737489403904 ∧ w = wq)
  case atStart => exact ⟨0, l0.length, rfl, rfl, Nat.zero_le _, by omega, by omega, by omega, rfl⟩
  case round =>
    obtain ⟨i, n, rfl, rfl, hi, hgg, hn0, hn1, rfl⟩ := hrel
    by_cases hc : i < l0.length ∧ n ≤ 2048
    · obtain ⟨hil, hn2⟩ := hc
      obtain ⟨gk, rfl⟩ : ∃ q, gk = q + 1 := by
        cases gk with
        | zero => omega
        | succ q => exact ⟨q, rfl⟩
      obtain ⟨ad, rfl, kx⟩ := Kd.at_string HR0.out (i : Int) (by omega) (by omega)
      rw [Int.toNat_natCast] at kx
      generalize rdOf ByteArray.empty l0 (i : Int) = y at kx
      by_cases hy : (y.size : Int) ≤ 1048576
      all_goals
        go_wp2_with (fail)
        go_roundg gk
        case measure => omega
        case rel => exact ⟨i + 1, _, rfl, by rw [Int.natCast_add]; rfl, by omega, by omega, by omega, by omega, rfl⟩
    · by_cases hbig : 2048 < n ∨ 100 < l0.length
      · by_cases h0 : (i : Int) < (l0.length : Int)
        · have h1 : ¬ n ≤ 2048 := fun q => hc ⟨by omega, q⟩
          have h2 : 2048 < n := by omega
          clear hbig
          go_wp2_with (fail)
          go_ret
          exact ⟨rfl, Below.refl _ _⟩
        · by_cases h2 : 2048 < n
          · clear hbig
            go_wp2_with (fail)
            go_ret
            exact ⟨rfl, Below.refl _ _⟩
          · have h3 : (100 : Int) < (l0.length : Int) := by omega
            clear hbig
            go_wp2_with (fail)
            go_ret
            exact ⟨rfl, Below.refl _ _⟩
      · have h2 : ¬ 2048 < n := fun q => hbig (.inl q)
        have h3 : l0.length ≤ 100 := by omega
        have h4 : ¬ (100 : Int) < (l0.length : Int) := by omega
        have h5 : ¬ (i : Int) < (l0.length : Int) := fun q => hc ⟨by omega, by omega⟩
        clear hbig hc hgg
        go_wp2_with (first
          | (go_at_call 9; (with_reducible refine (cubbylaw03_DiskEither.dNew _ w.heap.size (Nat.le_refl _)).mono ?_); rintro e w2 ⟨gd, rfl, hd2, hb2⟩; have HD := Aside0.mk hd2; have HB := Aside0.mk hb2; clear hd2 hb2))
        go_loopg [9] l0.length (fun gg v9 wq => ∃ (i : Nat) (s : Dk.S), v9 = .int .i64 (i : Int) ∧ i ≤ l0.length ∧ l0.length - i ≤ gg ∧ Aside0 (Tw.D wq w.heap.size gd i s) ∧ Aside0 (Pe.A l0 i s) ∧ Aside0 (Below w.heap.size w wq))
        case atStart => exact ⟨0, Dk.S0, rfl, Nat.zero_le _, by omega, HD, ⟨Pe.A.start l0⟩, HB⟩
        case round =>
          clear HD HB h5 hi
          obtain ⟨i, s, rfl, hi, hgg, HD, HA, HB⟩ := hrel
          by_cases hil : i < l0.length
          · obtain ⟨gk, rfl⟩ : ∃ q, gk = q + 1 := by
              cases gk with
              | zero => omega
              | succ q => exact ⟨q, rfl⟩
            have hstep := HA.out.step hil h3
            have hin := HA.out.inn
            have ey : rdOf ByteArray.empty l0 (i : Int) = l0.getD i ⟨#[]⟩ := by unfold rdOf; rw [Int.toNat_natCast]; rfl
            obtain ⟨ad, rfl, kx⟩ := Kd.at_string HR0.out (i : Int) (by omega) (by omega)
            have KX : Aside0 (∀ W, Below w.heap.size w W → W.cell? (ad.add i) = some (.string (l0.getD i ⟨#[]⟩))) := ⟨fun W hb => by
              obtain ⟨ad', e, q⟩ := Kd.at_string (Kd.C_below HR0.out hb) (i : Int) (by omega) (by omega)
              cases e
              rw [Int.toNat_natCast, ey] at q
              exact q⟩
            have kx := KX.out wr HB.out
            clear ey
            have e2 : ((2 * i : Nat) : Int) = 2 * (i : Int) := by omega
            rw [e2] at hstep
            clear e2
            generalize l0.getD i ⟨#[]⟩ = y at kx hstep KX
            obtain ⟨hq, hA2⟩ := hstep
            have HA2 := Aside0.mk hA2
            have H1 := Aside0.mk (cubbylaw03_DiskEither.dWrite s w.heap.size gd i (2 * (i : Int)) y wr HD.out hin (by omega))
            clear hA2 hin
            generalize (Dk.writ s (2 * (i : Int)) y).2 = c at hq H1
            generalize (Dk.writ s (2 * (i : Int)) y).1 = S2 at HA2 H1
            by_cases hy : y.size ≤ 128
            · have hc := hq.2 hy
              have hy' : (y.size : Int) ≤ 128 := by omega
              subst hc
              clear hq hy
              go_wp2_with (first
                | (go_at_call 13; (with_reducible refine H1.out.mono ?_); rintro e w3 ⟨rfl, hd3, hb3⟩; have HD := Aside0.mk hd3; have HB := Aside0.mk (HB.out.trans hb3.b); have k2 := KX.out _ HB.out; clear hd3 hb3))
              go_roundg gk
              case measure => omega
              case rel => exact ⟨i + 1, S2, by rw [Int.natCast_add]; rfl, by omega, by omega, HD, HA2, HB⟩
            · have hc : ¬ c = 0 := fun q => hy (hq.1 q)
              have hcb : (c == 0) = false := beq_eq_false_iff_ne.2 hc
              have hcd := decide_eq_false hc
              have hce := eq_false hc
              have hy' : ¬ (y.size : Int) ≤ 128 := by omega
              clear hq hy
              go_wp2_with (first
                | (go_at_call 13; (with_reducible refine H1.out.mono ?_); rintro e w3 ⟨rfl, hd3, hb3⟩; have HD := Aside0.mk hd3; have HB := Aside0.mk (HB.out.trans hb3.b); have k2 := KX.out _ HB.out; clear hd3 hb3))
              go_roundg gk
              case measure => omega
              case rel => exact ⟨i + 1, S2, by rw [Int.natCast_add]; rfl, by omega, by omega, HD, HA2, HB⟩
          · obtain rfl : i = l0.length := by omega
            obtain ⟨g1, g2, g3, g4, g5, g6⟩ := HA.out.goes h3 l1 hk
            have H1 := Aside0.mk (fun W h => cubbylaw03_DiskEither.dCut s w.heap.size gd l0.length 1 l1 W h)
            have H2 := Aside0.mk (fun W h => cubbylaw03_DiskEither.dBarrier (Dk.cutS s 1 l1) w.heap.size gd l0.length W h g2)
            have H3 := Aside0.mk (fun W h => cubbylaw03_DiskEither.dPower (Dk.barr (Dk.cutS s 1 l1)).1 w.heap.size gd l0.length W h)
            have H4 := Aside0.mk (fun W h => cubbylaw03_DiskEither.dBarrier (Pe.fin s l1) w.heap.size gd l0.length W h g3)
            have HZ := Aside0.mk g4
            have e3 : Dk.powS (Dk.barr (Dk.cutS s 1 l1)).1 = Pe.fin s l1 := rfl
            rw [e3] at H3
            rw [g1] at H2
            rw [g6] at H4
            clear e3 g1 g2 g3 g4 g6 HA hgg h2 hi
            obtain ⟨F, hF⟩ : ∃ q, Pe.fin s l1 = q := ⟨_, rfl⟩
            rw [hF] at H3 H4 HZ g5
            clear hF
            generalize (Dk.barr (Dk.cutS s 1 l1)).1 = S3 at H2 H3
            generalize Dk.cutS s 1 l1 = S2 at H1 H2
            go_wp2_with (first
              | (go_at_call 11; (with_reducible refine (H1.out _ HD.out).mono ?_); rintro e w3 ⟨rfl, hd3, hb3⟩; have HD := Aside0.mk hd3; have HB := Aside0.mk (HB.out.trans hb3.b); clear hd3 hb3)
              | (go_at_call 15; (with_reducible refine (H2.out _ HD.out).mono ?_); rintro e w4 ⟨rfl, hd3, hb3⟩; have HD := Aside0.mk hd3; have HB := Aside0.mk (HB.out.trans hb3.b); clear hd3 hb3)
              | (go_at_call 22; (with_reducible refine (H3.out _ HD.out).mono ?_); rintro e w5 ⟨rfl, hd3, hb3⟩; have HD := Aside0.mk hd3; have HB := Aside0.mk (HB.out.trans hb3.b); clear hd3 hb3))
            go_loopg [11, 8] l0.length (fun gg v11 v8 wq => ∃ (i m : Nat), v11 = .int .i64 (i : Int) ∧ v8 = .int .i64 (m : Int) ∧ m ≤ i ∧ i ≤ l0.length ∧ l0.length - i ≤ gg ∧ Aside0 (Tw.D wq w.heap.size gd l0.length F) ∧ Aside0 (Pe.Z l1 F.sec l0 i m) ∧ Aside0 (Below w.heap.size w wq))
            case atStart => exact ⟨0, 0, rfl, rfl, Nat.le_refl _, Nat.zero_le _, by omega, HD, HZ, HB⟩
            case round =>
              clear HD HB HZ
              obtain ⟨i, m, rfl, rfl, hm, hi, hgg, HD, HZ, HB⟩ := hrel
              by_cases hil : i < l0.length
              · obtain ⟨gk, rfl⟩ : ∃ q, gk = q + 1 := by
                  cases gk with
                  | zero => omega
                  | succ q => exact ⟨q, rfl⟩
                have hstep := HZ.out.step hil h3
                have ey : rdOf ByteArray.empty l0 (i : Int) = l0.getD i ⟨#[]⟩ := by unfold rdOf; rw [Int.toNat_natCast]; rfl
                obtain ⟨ad, rfl, kx⟩ := Kd.at_string HR0.out (i : Int) (by omega) (by omega)
                have KX : Aside0 (∀ W, Below w.heap.size w W → W.cell? (ad.add i) = some (.string (l0.getD i ⟨#[]⟩))) := ⟨fun W hb => by
                  obtain ⟨ad', e, q⟩ := Kd.at_string (Kd.C_below HR0.out hb) (i : Int) (by omega) (by omega)
                  cases e
                  rw [Int.toNat_natCast, ey] at q
                  exact q⟩
                have kx := KX.out wr HB.out
                clear ey
                have er : Dk.read F (2 * (i : Int)) = (F.sec.getD (2 * i) ⟨#[]⟩, 0) := by
                  unfold Dk.read
                  rw [if_neg (by rw [g5]; decide), if_neg (by omega), show (2 * (i : Int)).toNat = 2 * i by omega]
                have H5 := Aside0.mk (fun W h => cubbylaw03_DiskEither.dRead F w.heap.size gd l0.length (2 * (i : Int)) W h)
                rw [er] at H5
                clear er
                generalize l0.getD i ⟨#[]⟩ = y at kx hstep KX
                generalize F.sec.getD (2 * i) ⟨#[]⟩ = z at hstep H5
                by_cases hy : y.size ≤ 128
                · have hy' : ¬ (128 : Int) < (y.size : Int) := by omega
                  obtain ⟨h6, hz⟩ := hstep.1 hy
                  have HZ2 := Aside0.mk hz
                  clear hstep hz HZ
                  rw [Rf.lost_eq l1 m hk] at h6
                  have hnn := (Rf.rest_in l1 m hk).1
                  have et : (l1 / 2 ^ (m % 64)).tmod 2 = Rf.rest l1 m % 2 := Int.tmod_eq_emod_of_nonneg hnn
                  by_cases hb : Rf.rest l1 m % 2 = 0
                  · rw [if_pos (decide_eq_true hb)] at h6
                    subst h6
                    have hsh : ((l1 / 2 ^ (m % 64)).tmod 2 == 1) = false := by rw [et, hb]; rfl
                    clear et hnn hb
                    go_wp2_with (first
                      | (go_at_call 21; (with_reducible refine (H5.out _ HD.out).mono ?_); rintro e w3 ⟨rfl, rfl⟩))
                    go_roundg gk
                    case measure => omega
                    case rel => exact ⟨i + 1, m + 1, by rw [Int.natCast_add]; rfl, by rw [Int.natCast_add]; rfl, by omega, by omega, by omega, HD, HZ2, HB⟩
                  · have h1 : Rf.rest l1 m % 2 = 1 := by omega
                    rw [decide_eq_false hb, if_neg (by decide)] at h6
                    subst h6
                    have hsh : ((l1 / 2 ^ (m % 64)).tmod 2 == 1) = true := by rw [et, h1]; rfl
                    clear et hnn hb h1
                    go_wp2_with (first
                      | (go_at_call 21; (with_reducible refine (H5.out _ HD.out).mono ?_); rintro e w3 ⟨rfl, rfl⟩))
                    go_roundg gk
                    case measure => omega
                    case rel => exact ⟨i + 1, m + 1, by rw [Int.natCast_add]; rfl, by rw [Int.natCast_add]; rfl, by omega, by omega, by omega, HD, HZ2, HB⟩
                · have hy' : (128 : Int) < (y.size : Int) := by omega
                  have HZ2 := Aside0.mk (hstep.2 hy)
                  clear hstep HZ
                  go_wp2_with (fail)
                  go_roundg gk
                  case measure => omega
                  case rel => exact ⟨i + 1, m, by rw [Int.natCast_add]; rfl, rfl, by omega, by omega, by omega, HD, HZ2, HB⟩
              · go_wp2_with (first
                  | (go_at_call 15; (with_reducible refine (H4.out _ HD.out).mono ?_); rintro e w4 ⟨rfl, hd3, hb3⟩; have HB := Aside0.mk (HB.out.trans hb3.b); clear hd3 hb3))
                go_ret
                exact ⟨by first | rfl | simp, HB.out⟩

/-- THE ONE PURE STATEMENT of cubbylaw03_DiskEither: yours. -/
def cubbylaw03_DiskEither.Pure : Prop := ∀ (l0 : List ByteArray) (a1 : Int), (l0.length ≤ maxLen ∧ l0.length * 16 ≤ 140737488351232 ∧ ∀ x ∈ l0, x.size ≤ 140737488351232) → (Lit.int .u64 a1).wf = true → cubbylaw03_DiskEither.f l0 a1 = some true
theorem cubbylaw03_DiskEither.walk (P : cubbylaw03_DiskEither.Pure) (A0 : Option Addr) (c0 : Nat) (l0 : List ByteArray) (a1 : Int) (w : World) (hr0 : Kd.C Kd.string w A0 l0.length l0) (hc0 : l0.length ≤ c0) (o0 : (l0.length ≤ maxLen ∧ l0.length * 16 ≤ 140737488351232 ∧ ∀ x ∈ l0, x.size ≤ 140737488351232)) (o1 : (Lit.int .u64 a1).wf = true) :
    Calls Try.prog 5 #[.slice A0 l0.length c0, .int .u64 a1] w fun e w' => e = .returned (.bool true) ∧ Below w.heap.size w w' := by
  have h := P l0 a1 o0 o1
  refine (cubbylaw03_DiskEither.calls A0 c0 l0 a1 true w hr0 hc0 h).mono ?_
  rintro e w' ⟨rfl, hd⟩
  exact ⟨rfl, hd⟩

end Go.Proofs.Ytbikejfjfliamaa.PDiskEither

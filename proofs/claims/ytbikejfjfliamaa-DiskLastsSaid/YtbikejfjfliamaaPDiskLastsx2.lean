-- By a program of this session (wip/tools/mkprint.py), for this claim.
import Derived.Test.YtbikejfjfliamaaPDiskLastsx0
import Derived.Test.YtbikejfjfliamaaPDiskLastsx1
namespace Go.Proofs.Ytbikejfjfliamaa.PDiskLasts
open Go.RowKit Go.Proofs.YtbikejfjfliamaaW.PrintWords Go.Proofs.YtbikejfjfliamaaW.PrintLast Go.Proofs.YtbikejfjfliamaaW.PrintMore
attribute [local go_sem] max2_int min2_int max_two min_two max_three min_three max_four min_four   -- for this text's walks alone
set_option linter.unusedVariables false
set_option linter.unusedSimpArgs false

/-! ### disk_Disk_Write: function 13 (by hand) -/
theorem disk_Disk_Write.index (l : List Int) (a : Int) (hl : l.length ≤ 1000000) (d : Nat) : ∀ (k i : Nat), i + d = l.length → d < k → ∃ r, slices_Index_int_int.l0 k l a (l.length : Int) (i : Int) = some r ∧ decide (r ≥ 0) = decide (a ∈ l.drop i) := by
  induction d with
  | zero =>
    intro k i hi hk
    obtain ⟨k, rfl⟩ : ∃ m, k = m + 1 := ⟨k - 1, by omega⟩
    refine ⟨-1, ?_, ?_⟩
    · rw [slices_Index_int_int.l0, if_neg (by omega)]
    · rw [List.drop_eq_nil_of_le (by omega)]
      simp
  | succ d ih =>
    intro k i hi hk
    obtain ⟨k, rfl⟩ : ∃ m, k = m + 1 := ⟨k - 1, by omega⟩
    have hlt : i < l.length := by omega
    have er : rd l (i : Int) = l[i] := by
      unfold rd
      simp [List.getD_eq_getElem?_getD, hlt]
    rw [slices_Index_int_int.l0, if_pos (by omega), if_pos (by omega), if_pos (by omega), er, List.drop_eq_getElem_cons hlt]
    by_cases h : a = l[i]
    · refine ⟨(i : Int), by rw [if_pos h], ?_⟩
      rw [decide_eq_true (by omega), decide_eq_true (by rw [h]; exact List.mem_cons_self)]
    · obtain ⟨r, h1, h2⟩ := ih k (i + 1) (by omega) (by omega)
      refine ⟨r, ?_, ?_⟩
      · rw [if_neg h, Hw.wnat i (by omega)]
        exact h1
      · rw [h2]
        congr 1
        rw [List.mem_cons]
        exact propext ⟨fun q => .inr q, fun q => q.resolve_left h⟩
theorem disk_Disk_Write.has (l : List Int) (a : Int) (hl : l.length ≤ 1000000) : slices_Contains_int_int.f (l.length + 1) l a = some (decide (a ∈ l)) := by
  obtain ⟨r, h1, h2⟩ := disk_Disk_Write.index l a hl l.length (l.length + 1) 0 (by omega) (by omega)
  unfold slices_Contains_int_int.f slices_Index_int_int.f
  rw [show ((0 : Int)) = ((0 : Nat) : Int) from rfl, h1, Option.bind_some]
  rw [List.drop_zero] at h2
  exact congrArg some h2
/-! ### disk_write: function 1013 (by hand) -/
set_option maxHeartbeats 8000000 in
set_option maxRecDepth 100000 in
theorem disk_Disk_Write.calls (s : Dk.S) (base g mb n : Nat) (ov : Value) (i : Int) (x : ByteArray) (w : World) (h : Dk.D w base g s mb n ov) (hin : Dk.In s) (hn : n ≤ 1000000) :
    Calls Try.prog 13 #[.pointer (some ⟨g, 0, none⟩), .int .i64 i, .string x] w fun e w' => e = .returned (.int .i64 (Dk.writ s i x).2) ∧ (∃ ov' n', n' ≤ n + 1 ∧ Dk.D w' base g (Dk.writ s i x).1 mb n' ov') ∧ Dk.B base w w' := by
  have m2 : w.cell? ⟨g, 258, none⟩ = some (.bool s.off) := h.at 2
  have m6 : w.cell? ⟨g, 262, none⟩ = some (.int .i64 s.many) := h.at 6
  have f6 := h.fz 262
  obtain ⟨A, c, rfl⟩ := Kd.R_slice h.ro
  have hl : (s.l.map Prod.fst).length = s.l.length := List.length_map _
  rw [hl] at h
  have HH := Aside0.mk h
  have HDIE := Aside0.mk (fun s base g mb n ov w => disk_Disk_die.calls s base g mb n ov w)
  have HDUE := Aside0.mk (fun b k cs t n w => disk_due.calls b k cs t n w)
  have n1 : 0 ≤ s.many := hin.2.2.2.1.1
  have n2 : s.many ≤ 90000 := hin.2.2.2.1.2
  have u1 := hin.1
  have u2 := hin.2.1
  have HIN := Aside0.mk hin
  have HN := Aside0.mk hn
  clear h hin hn
  cases ho : s.off
  case true =>
    rw [ho] at m2
    have hb : Dk.writ s i x = (s, 33) := by unfold Dk.writ; rw [ho, if_pos rfl]
    rw [hb]
    clear hb
    go_enter Try.func13, Try.ntmps13
    go_wp2_with (fail)
    go_ret
    exact ⟨rfl, ⟨_, _, Nat.le_succ _, HH.out⟩, Dk.B.refl _ _⟩
  case false =>
    rw [ho] at m2
    by_cases hi : i < 0 ∨ 256 ≤ i
    · have hb : Dk.writ s i x = (s, 30) := by unfold Dk.writ; rw [ho, if_neg (by decide), if_pos hi]
      rw [hb]
      clear hb
      by_cases c1 : i < 0
      · clear hi
        go_enter Try.func13, Try.ntmps13
        go_wp2_with (fail)
        go_ret
        exact ⟨rfl, ⟨_, _, Nat.le_succ _, HH.out⟩, Dk.B.refl _ _⟩
      · have c2 : 256 ≤ i := hi.resolve_left c1
        have c3 : decide (i < 0) = false := decide_eq_false c1
        clear hi
        go_enter Try.func13, Try.ntmps13
        go_wp2_with (fail)
        go_ret
        exact ⟨rfl, ⟨_, _, Nat.le_succ _, HH.out⟩, Dk.B.refl _ _⟩
    · obtain ⟨xn, rfl⟩ : ∃ xn : Nat, i = (xn : Int) := ⟨i.toNat, by omega⟩
      have x1 : (0 : Int) ≤ (xn : Int) := by omega
      have x2 : (xn : Int) < 256 := by omega
      have x3 : xn < 256 := by omega
      have x4 : ¬ (xn : Int) < 0 := by omega
      have x5 : ¬ 256 ≤ (xn : Int) := by omega
      by_cases hs : 128 < x.size
      · have hb : Dk.writ s (xn : Int) x = (s, 31) := by unfold Dk.writ; rw [ho, if_neg (by decide), if_neg hi, if_pos hs]
        rw [hb]
        clear hb hi
        have hs1 : (128 : Int) < (x.size : Int) := by omega
        go_enter Try.func13, Try.ntmps13
        go_wp2_with (fail)
        go_ret
        exact ⟨rfl, ⟨_, _, Nat.le_succ _, HH.out⟩, Dk.B.refl _ _⟩
      · have hs1 : ¬ (128 : Int) < (x.size : Int) := by omega
        have hb : Dk.writ s (xn : Int) x = (if s.fail = 1 ∧ s.cut ≠ 1 then (Dk.tick s, 32) else if s.cut = 1 then (Dk.dieS (Dk.putS (Dk.tick s) (xn : Int) x), 33) else (Dk.putS (Dk.tick s) (xn : Int) x, 0)) := by
          unfold Dk.writ
          rw [ho, if_neg (by decide), if_neg hi, if_neg hs]
        rw [hb]
        clear hb hi
        obtain ⟨R, hR⟩ : ∃ R, (if s.fail = 1 ∧ s.cut ≠ 1 then (Dk.tick s, (32 : Int)) else if s.cut = 1 then (Dk.dieS (Dk.putS (Dk.tick s) (xn : Int) x), 33) else (Dk.putS (Dk.tick s) (xn : Int) x, 0)) = R := ⟨_, rfl⟩
        rw [hR]
        have HRR := Aside0.mk hR
        clear hR
        obtain ⟨bc, hbc⟩ : ∃ b, decide (s.cut = 1) = b := ⟨_, rfl⟩
        obtain ⟨bf, hbf⟩ : ∃ b, decide (s.fail = 1) = b := ⟨_, rfl⟩
        have HBC := Aside0.mk hbc
        have HBF := Aside0.mk hbf
        go_enter Try.func13, Try.ntmps13
        go_wp2_with (fail)
        obtain ⟨hp1, hp2⟩ := Dk.D.put (s' := { s with many := s.many + 1 }) HH.out 262 (.int .i64 (s.many + 1)) (by rw [Dk.arr_set s mb _ 6 _ HH.out.hl]; rfl) HH.out.hl rfl
        have HP := Aside0.mk hp1
        have HB := Aside0.mk hp2
        clear hp1 hp2 m6 f6 m2
        generalize w.setCell ⟨g, 262, none⟩ (.int .i64 (s.many + 1)) = W5 at HP HB ⊢
        have HP := Aside0.mk HP.out.drew
        have HO := Aside0.mk HP.out.ob
        have HK1 := Aside0.mk (Dk.arr259 { s with many := s.many + 1 } mb (.slice A s.l.length c) HH.out.hl)
        have HK2 := Aside0.mk (Dk.arr260 { s with many := s.many + 1 } mb (.slice A s.l.length c) (.int .i64 (Dk.dn s.cut)) HH.out.hl)
        have hn1 : -9223372036854775808 ≤ s.cut ∧ s.cut < 9223372036854775808 := by omega
        have hn2 : -9223372036854775808 ≤ s.fail ∧ s.fail < 9223372036854775808 := by omega
        go_region_held3 (fun _ => True) (trivial) ((first | (go_at_call 27; (with_reducible refine (HDUE.out g 259 _ _ _ _ HO.out HK1.out hn1).mono ?_); rintro e w3 ⟨rfl, ho3, hg3⟩; have HO3 := Aside0.mk ho3; have HG3 := Aside0.mk hg3; clear ho3 hg3) | (go_at_call 27; (with_reducible refine (HDUE.out g 260 _ _ _ _ HO3.out HK2.out hn2).mono ?_); rintro e w4 ⟨rfl, ho4, hg4⟩; have HO4 := Aside0.mk ho4; have HG4 := Aside0.mk hg4; clear ho4 hg4)))
        have HT := Aside0.mk (Dk.D.ticked HP.out HO3.out HG3.out HO4.out HG4.out)
        have HB := Aside0.mk ((HB.out.trans (Dk.B.drew (Dk.B.refl _ _))).trans HT.out.2)
        have HT := Aside0.mk HT.out.1
        clear HO HK1 HK2 HP HO3 HO4 HG3 HG4
        have t1 : w4.cell? ⟨g, 257, none⟩ = some (.slice A s.l.length c) := HT.out.at 1
        have HCR : Aside0 (Kd.C (Kd.int .i64) w4 A (s.l.map Prod.fst).length (s.l.map Prod.fst)) := ⟨(Kd.R_reads' HT.out.ro).2.2⟩
        have HCL : Aside0 ((s.l.map Prod.fst).length ≤ c) := ⟨by rw [hl]; exact (Kd.R_reads' HT.out.ro).2.1⟩
        have hll : s.l.length ≤ 100000 := by have := HIN.out.2.2.2.2.1; omega
        have hch := disk_Disk_Write.has (s.l.map Prod.fst) (xn : Int) (by rw [hl]; omega)
        obtain ⟨bk, hbk⟩ : ∃ b, decide ((xn : Int) ∈ s.l.map Prod.fst) = b := ⟨_, rfl⟩
        rw [hbk] at hch
        have HCH := Aside0.mk hch
        have HBK := Aside0.mk hbk
        have HCON : Aside0 (Calls Try.prog 28 #[.slice A s.l.length c, .int .i64 (xn : Int)] w4 fun e w' => e = .returned (.bool bk) ∧ Drawn0 w4 w') := ⟨by
          have h9 := slices_Contains_int_int.calls _ A c _ (xn : Int) _ _ HCR.out HCL.out HCH.out
          rw [hl] at h9
          exact h9⟩
        have HLT : Aside0 (∀ sec : List ByteArray, ({ Dk.tick s with sec := sec } : Dk.S).l.length ≤ 100000) := ⟨fun _ => hll⟩
        have HKT : Aside0 (∀ sec : List ByteArray, 0 ≤ ({ Dk.tick s with sec := sec } : Dk.S).keep ∧ ({ Dk.tick s with sec := sec } : Dk.S).keep < 18446744073709551616) := ⟨fun _ => HIN.out.2.2.1⟩
        clear hch hbk hbc hbf
        by_cases hearly : bf = true ∧ bc = false
        · obtain ⟨rfl, rfl⟩ := hearly
          have hRR : R = (Dk.tick s, 32) := by rw [← HRR.out, if_pos ⟨of_decide_eq_true HBF.out, of_decide_eq_false HBC.out⟩]
          subst hRR
          go_wp2_with (fail)
          go_ret
          exact ⟨rfl, ⟨_, _, Nat.le_succ _, HT.out⟩, HB.out⟩
        · have hnf : ¬ (s.fail = 1 ∧ s.cut ≠ 1) := fun q => hearly ⟨by rw [← HBF.out]; exact decide_eq_true q.1, by rw [← HBC.out]; exact decide_eq_false q.2⟩
          have hRR : R = (if s.cut = 1 then (Dk.dieS (Dk.putS (Dk.tick s) (xn : Int) x), 33) else (Dk.putS (Dk.tick s) (xn : Int) x, 0)) := by rw [← HRR.out, if_neg hnf]
          have HR2 := Aside0.mk hRR
          have HEA := Aside0.mk hearly
          clear hnf hRR hearly
          cases bk
          · have hno : ¬ (xn : Int) ∈ s.l.map Prod.fst := of_decide_eq_false HBK.out
            obtain ⟨y, hy⟩ : ∃ y, s.sec.getD xn ⟨#[]⟩ = y := ⟨_, rfl⟩
            have hys : y.size ≤ 128 := by
              rw [← hy, List.getD_eq_getElem?_getD, List.getElem?_eq_getElem (by rw [HH.out.hl]; exact x3)]
              exact HIN.out.2.2.2.2.2.1 _ (List.getElem_mem _)
            have hput : Dk.putS (Dk.tick s) (xn : Int) x = { Dk.tick s with l := s.l ++ [((xn : Int), y)], sec := s.sec.set xn x } := by
              unfold Dk.putS
              rw [if_neg (show ¬ (xn : Int) ∈ (Dk.tick s).l.map Prod.fst from hno), ← hy]
              rfl
            rw [hput] at HR2
            clear hput
            have HNO := Aside0.mk hno
            have HYS := Aside0.mk hys
            have HY := Aside0.mk hy
            clear hno hys hy
            have HLM : Aside0 (s.l.length + 1 ≤ 100000) := ⟨by have := HIN.out.2.2.2.2.1; omega⟩
            cases bc
            · cases bf
              case true => exact absurd ⟨rfl, rfl⟩ HEA.out
              case false =>
                go_wp2_with (first | (go_at_call 28; (with_reducible refine HCON.out.mono ?_); rintro e w6 ⟨rfl, ⟨nd, rfl⟩⟩; have HT := Aside0.mk (HT.out.drewN nd); have HB := Aside0.mk (HB.out.drewN nd); have s1 := HT.out.sec xn x3; have s2 := HT.out.fz xn) | ((with_reducible refine gate_builtin (b := .append) (xs := #[.tmp 56, .tmp 58]) rfl ?_); (try (refine gate_guard (by rfl) ?_; dsimp only)); at_builtin; refine Kd.R_append (Kd.int .i64) (w0 := w4.drewN nd) (W := w4.drewN nd) base rfl (.tmp 56) (.tmp 58) 54 3 (.int .i64 0) 8 rfl (by kernel_rfl) (by kernel_rfl) rfl (by decide) (by decide) (.slice A s.l.length c) (s.l.map Prod.fst) (xn : Int) [.int .i64 (xn : Int)] (fun _ => True) (fun _ => False) rfl rfl rfl (fun _ hk => hk.elim) (fun _ _ => trivial) HT.out.ro (Below.refl _ _) HT.out.hb (by rw [hl]; omega) ?_; intro v1 w7 ho7 hb7 hg7 ha7; have HROW := Aside0.mk (Dk.D.row HT.out ho7 hg7); obtain ⟨A1, c1, e1⟩ := Kd.R_slice ho7; subst e1; have r257 : w7.cell? ⟨g, 257, none⟩ = some (.slice A s.l.length c) := (by rw [cell_of_row w7 g _ _ _ _ HROW.out.1]; exact Dk.arr_get (Dk.tick s) mb _ 1 HH.out.hl); have f257 : w7.frozen? ⟨g, 257, none⟩ = false := (by simp [World.frozen?, HROW.out.1]); clear ho7 hb7 hg7 ha7))
                have HE : Aside0 (((s.l.map Prod.fst) ++ [(xn : Int)]).length = s.l.length + 1) := ⟨by rw [List.length_append, hl]; rfl⟩
                rw [HE.out] at HROW
                generalize w7.setCell ⟨g, 257, none⟩ (.slice A1 (s.l.length + 1) c1) = W8 at HROW ⊢
                obtain ⟨_, hw8, hr8, hmp8, hB8, hb7⟩ := HROW.out
                have hb8 := Nat.le_trans HH.out.hb (Nat.le_trans HB.out.size hB8.size)
                obtain ⟨w9, hupd, hmp9, hg9, hes9⟩ := Dk.Mp.upd (W := W8.drew) (hmp8.kept (Hw.grown_drew W8 (some g)) HH.out.ne) (Nat.lt_of_le_of_lt HN.out (by decide)) (xn : Int) ⟨x1, x2⟩ HH.out.kk HNO.out y HYS.out
                have HMORE := Aside0.mk (Dk.D.more (W := W8.drew) (s := Dk.tick s) (i := (xn : Int)) (y := y) HH.out.hl HH.out.hg HH.out.hm HH.out.kk ⟨x1, x2⟩ hb8 hw8 (Kd.R_drew hr8) hmp9 hg9 hes9)
                have m0 : W8.drew.cell? ⟨g, 256, none⟩ = some (.map (some mb)) := by rw [cell_of_row W8.drew g _ _ _ _ hw8]; exact Dk.arr_get (Dk.tick s) mb _ 0 HH.out.hl
                have m1 : W8.drew.cell? ⟨g, xn, none⟩ = some (.string y) := by
                  rw [cell_of_row W8.drew g _ _ _ _ hw8]
                  have e := Dk.arr_low (Dk.tick s) mb (.slice A1 (s.l.length + 1) c1) xn HH.out.hl x3
                  rw [e]
                  exact congrArg (fun q => some (Value.string q)) HY.out
                have s8 := HMORE.out.1.sec xn x3
                have f8 := HMORE.out.1.fz xn
                have HBB := Aside0.mk (((HB.out.trans hB8).trans (Dk.B.drew (Dk.B.refl _ _))).trans HMORE.out.2)
                clear hw8 hr8 hmp8 hB8 hb7 hb8 hmp9 hg9 hes9 r257 f257 HROW s1 s2
                -- REGION 13 A BEGINS
                refine start_ (n := 12) (S := fun w' => w'.cell? ⟨g, 256, none⟩ = some (.map (some mb)) ∧ w'.cell? ⟨g, xn, none⟩ = some (.string y)) (ds := [11]) #[false, false, false, false, false, false, false, false, false, false, false, false] (by kernel_rfl) rfl rfl ⟨m0, m1⟩ (fun hHeld => ?_)
                refine pure_ (i := 0) (N := some 62) (v := ?_) (a' := ?_) #[true, false, false, false, false, false, false, false, false, false, false, false] rfl rfl (by kernel_rfl) (fun _ _ _ h => h) (Or.inl ⟨by rfl, ?_⟩) ?_ ?_
                rotate_left
                · intro w'
                  go_simp
                  with_reducible rfl
                rotate_left
                · simp only [Act.put, List.setIfInBounds_toArray, List.set_cons_zero, List.set_cons_succ, i64_w, i32_w]
                  rfl
                refine pure_ (i := 1) (N := some 63) (v := ?_) (a' := ?_) #[true, true, false, false, false, false, false, false, false, false, false, false] rfl rfl (by kernel_rfl) (fun _ _ _ h => h) (Or.inl ⟨by rfl, ?_⟩) ?_ ?_
                rotate_left
                · intro w'
                  go_simp
                  with_reducible rfl
                rotate_left
                · simp only [Act.put, List.setIfInBounds_toArray, List.set_cons_zero, List.set_cons_succ, i64_w, i32_w]
                  rfl
                refine pure_ (i := 2) (N := some 64) (v := ?_) (a' := ?_) #[true, true, true, false, false, false, false, false, false, false, false, false] rfl rfl (by kernel_rfl) (fun _ _ _ h => h) (Or.inl ⟨by rfl, ?_⟩) ?_ ?_
                rotate_left
                · intro w'
                  go_simp
                  with_reducible rfl
                rotate_left
                · simp only [Act.put, List.setIfInBounds_toArray, List.set_cons_zero, List.set_cons_succ, i64_w, i32_w]
                  rfl
                refine pure_ (i := 4) (N := some 66) (v := ?_) (a' := ?_) #[true, true, true, false, true, false, false, false, false, false, false, false] rfl rfl (by kernel_rfl) (fun _ _ _ h => h) (Or.inl ⟨by rfl, ?_⟩) ?_ ?_
                rotate_left
                · intro w'
                  go_simp
                  with_reducible rfl
                rotate_left
                · simp only [Act.put, List.setIfInBounds_toArray, List.set_cons_zero, List.set_cons_succ, i64_w, i32_w]
                  rfl
                refine pure_ (i := 5) (N := some 67) (v := ?_) (a' := ?_) #[true, true, true, false, true, true, false, false, false, false, false, false] rfl rfl (by kernel_rfl) (fun _ _ _ h => h) (Or.inl ⟨by rfl, ?_⟩) ?_ ?_
                rotate_left
                · intro w'
                  go_simp
                  with_reducible rfl
                rotate_left
                · simp only [Act.put, List.setIfInBounds_toArray, List.set_cons_zero, List.set_cons_succ, i64_w, i32_w]
                  rfl
                refine pure_ (i := 6) (N := some 68) (v := ?_) (a' := ?_) #[true, true, true, false, true, true, true, false, false, false, false, false] rfl rfl (by kernel_rfl) (fun _ _ _ h => h) (Or.inl ⟨by rfl, ?_⟩) ?_ ?_
                rotate_left
                · intro w'
                  go_simp
                  with_reducible rfl
                rotate_left
                · simp only [Act.put, List.setIfInBounds_toArray, List.set_cons_zero, List.set_cons_succ, i64_w, i32_w]
                  rfl
                refine pure_ (i := 7) (N := some 69) (v := ?_) (a' := ?_) #[true, true, true, false, true, true, true, true, false, false, false, false] rfl rfl (by kernel_rfl) (fun _ _ _ h => h) (Or.inl ⟨by rfl, ?_⟩) ?_ ?_
                rotate_left
                · intro w'
                  go_simp
                  with_reducible rfl
                rotate_left
                · simp only [Act.put, List.setIfInBounds_toArray, List.set_cons_zero, List.set_cons_succ, i64_w, i32_w]
                  rfl
                refine pure_ (i := 8) (N := some 70) (v := ?_) (a' := ?_) #[true, true, true, false, true, true, true, true, true, false, false, false] rfl rfl (by kernel_rfl) (fun _ _ _ h => h) (Or.inl ⟨by rfl, ?_⟩) ?_ ?_
                rotate_left
                · intro w'
                  go_simp
                  with_reducible rfl
                rotate_left
                · simp only [Act.put, List.setIfInBounds_toArray, List.set_cons_zero, List.set_cons_succ, i64_w, i32_w]
                  rfl
                refine pure_ (i := 9) (N := some 71) (v := ?_) (a' := ?_) #[true, true, true, false, true, true, true, true, true, true, false, false] rfl rfl (by kernel_rfl) (fun _ _ _ h => h) (Or.inl ⟨by rfl, ?_⟩) ?_ ?_
                rotate_left
                · intro w'
                  go_simp
                  with_reducible rfl
                rotate_left
                · simp only [Act.put, List.setIfInBounds_toArray, List.set_cons_zero, List.set_cons_succ, i64_w, i32_w]
                  rfl
                refine take_ (i := 3) (N := some 65) (v := ?_) (a' := ?_) #[true, true, true, true, true, true, true, true, true, true, false, false] rfl rfl (by kernel_rfl) (fun _ _ _ h => h) (Or.inl ⟨by rfl, ?_⟩) hHeld ?_ ?_
                rotate_left
                · rintro w' ⟨s0, s1⟩
                  go_simp
                  with_reducible rfl
                rotate_left
                · simp only [Act.put, List.setIfInBounds_toArray, List.set_cons_zero, List.set_cons_succ, i64_w, i32_w]
                  rfl
                refine take_ (i := 10) (N := some 72) (v := ?_) (a' := ?_) #[true, true, true, true, true, true, true, true, true, true, true, false] rfl rfl (by kernel_rfl) (fun _ _ _ h => h) (Or.inl ⟨by rfl, ?_⟩) hHeld ?_ ?_
                rotate_left
                · rintro w' ⟨s0, s1⟩
                  go_simp
                  with_reducible rfl
                rotate_left
                · simp only [Act.put, List.setIfInBounds_toArray, List.set_cons_zero, List.set_cons_succ, i64_w, i32_w]
                  rfl
                refine last_ (i := 11) (N := none) #[true, true, true, true, true, true, true, true, true, true, true, true] rfl rfl (by kernel_rfl) (by decide) (fun K hK => ?_)
                refine skip_ (w1 := ?_) (by rfl) rfl ?_ ?_
                rotate_left
                · go_simp
                  rfl
                refine hK.out _ _ ?_
                clear hK K
                refine done_ (by kernel_rfl) ?_
                -- REGION 13 A ENDS
                go_wp2_with (fail)
                go_ret
                have hRR : R = ({ Dk.tick s with l := s.l ++ [((xn : Int), y)], sec := s.sec.set xn x }, 0) := by rw [HR2.out, if_neg (of_decide_eq_false HBC.out)]
                subst hRR
                obtain ⟨p1, p2⟩ := Dk.D.put (s' := { Dk.tick s with l := s.l ++ [((xn : Int), y)], sec := s.sec.set xn x }) HMORE.out.1 xn (.string x) (Dk.arr_sec _ _ _ _ _ HMORE.out.1.hl x3) (by show (s.sec.set xn x).length = 256; rw [List.length_set]; exact HMORE.out.1.hl) rfl
                exact ⟨rfl, ⟨_, _, Nat.le_refl _, p1⟩, HBB.out.trans p2⟩
            · cases bf
              all_goals
                go_wp2_with (first | (go_at_call 28; (with_reducible refine HCON.out.mono ?_); rintro e w6 ⟨rfl, ⟨nd, rfl⟩⟩; have HT := Aside0.mk (HT.out.drewN nd); have HB := Aside0.mk (HB.out.drewN nd); have s1 := HT.out.sec xn x3; have s2 := HT.out.fz xn) | ((with_reducible refine gate_builtin (b := .append) (xs := #[.tmp 56, .tmp 58]) rfl ?_); (try (refine gate_guard (by rfl) ?_; dsimp only)); at_builtin; refine Kd.R_append (Kd.int .i64) (w0 := w4.drewN nd) (W := w4.drewN nd) base rfl (.tmp 56) (.tmp 58) 54 3 (.int .i64 0) 8 rfl (by kernel_rfl) (by kernel_rfl) rfl (by decide) (by decide) (.slice A s.l.length c) (s.l.map Prod.fst) (xn : Int) [.int .i64 (xn : Int)] (fun _ => True) (fun _ => False) rfl rfl rfl (fun _ hk => hk.elim) (fun _ _ => trivial) HT.out.ro (Below.refl _ _) HT.out.hb (by rw [hl]; omega) ?_; intro v1 w7 ho7 hb7 hg7 ha7; have HROW := Aside0.mk (Dk.D.row HT.out ho7 hg7); obtain ⟨A1, c1, e1⟩ := Kd.R_slice ho7; subst e1; have r257 : w7.cell? ⟨g, 257, none⟩ = some (.slice A s.l.length c) := (by rw [cell_of_row w7 g _ _ _ _ HROW.out.1]; exact Dk.arr_get (Dk.tick s) mb _ 1 HH.out.hl); have f257 : w7.frozen? ⟨g, 257, none⟩ = false := (by simp [World.frozen?, HROW.out.1]); clear ho7 hb7 hg7 ha7))
                have HE : Aside0 (((s.l.map Prod.fst) ++ [(xn : Int)]).length = s.l.length + 1) := ⟨by rw [List.length_append, hl]; rfl⟩
                rw [HE.out] at HROW
                generalize w7.setCell ⟨g, 257, none⟩ (.slice A1 (s.l.length + 1) c1) = W8 at HROW ⊢
                obtain ⟨_, hw8, hr8, hmp8, hB8, hb7⟩ := HROW.out
                have hb8 := Nat.le_trans HH.out.hb (Nat.le_trans HB.out.size hB8.size)
                obtain ⟨w9, hupd, hmp9, hg9, hes9⟩ := Dk.Mp.upd (W := W8.drew) (hmp8.kept (Hw.grown_drew W8 (some g)) HH.out.ne) (Nat.lt_of_le_of_lt HN.out (by decide)) (xn : Int) ⟨x1, x2⟩ HH.out.kk HNO.out y HYS.out
                have HMORE := Aside0.mk (Dk.D.more (W := W8.drew) (s := Dk.tick s) (i := (xn : Int)) (y := y) HH.out.hl HH.out.hg HH.out.hm HH.out.kk ⟨x1, x2⟩ hb8 hw8 (Kd.R_drew hr8) hmp9 hg9 hes9)
                have m0 : W8.drew.cell? ⟨g, 256, none⟩ = some (.map (some mb)) := by rw [cell_of_row W8.drew g _ _ _ _ hw8]; exact Dk.arr_get (Dk.tick s) mb _ 0 HH.out.hl
                have m1 : W8.drew.cell? ⟨g, xn, none⟩ = some (.string y) := by
                  rw [cell_of_row W8.drew g _ _ _ _ hw8]
                  have e := Dk.arr_low (Dk.tick s) mb (.slice A1 (s.l.length + 1) c1) xn HH.out.hl x3
                  rw [e]
                  exact congrArg (fun q => some (Value.string q)) HY.out
                have s8 := HMORE.out.1.sec xn x3
                have f8 := HMORE.out.1.fz xn
                have HBB := Aside0.mk (((HB.out.trans hB8).trans (Dk.B.drew (Dk.B.refl _ _))).trans HMORE.out.2)
                clear hw8 hr8 hmp8 hB8 hb7 hb8 hmp9 hg9 hes9 r257 f257 HROW s1 s2
                -- REGION 13 B BEGINS
                refine start_ (n := 12) (S := fun w' => w'.cell? ⟨g, 256, none⟩ = some (.map (some mb)) ∧ w'.cell? ⟨g, xn, none⟩ = some (.string y)) (ds := [11]) #[false, false, false, false, false, false, false, false, false, false, false, false] (by kernel_rfl) rfl rfl ⟨m0, m1⟩ (fun hHeld => ?_)
                refine pure_ (i := 0) (N := some 62) (v := ?_) (a' := ?_) #[true, false, false, false, false, false, false, false, false, false, false, false] rfl rfl (by kernel_rfl) (fun _ _ _ h => h) (Or.inl ⟨by rfl, ?_⟩) ?_ ?_
                rotate_left
                · intro w'
                  go_simp
                  with_reducible rfl
                rotate_left
                · simp only [Act.put, List.setIfInBounds_toArray, List.set_cons_zero, List.set_cons_succ, i64_w, i32_w]
                  rfl
                refine pure_ (i := 1) (N := some 63) (v := ?_) (a' := ?_) #[true, true, false, false, false, false, false, false, false, false, false, false] rfl rfl (by kernel_rfl) (fun _ _ _ h => h) (Or.inl ⟨by rfl, ?_⟩) ?_ ?_
                rotate_left
                · intro w'
                  go_simp
                  with_reducible rfl
                rotate_left
                · simp only [Act.put, List.setIfInBounds_toArray, List.set_cons_zero, List.set_cons_succ, i64_w, i32_w]
                  rfl
                refine pure_ (i := 2) (N := some 64) (v := ?_) (a' := ?_) #[true, true, true, false, false, false, false, false, false, false, false, false] rfl rfl (by kernel_rfl) (fun _ _ _ h => h) (Or.inl ⟨by rfl, ?_⟩) ?_ ?_
                rotate_left
                · intro w'
                  go_simp
                  with_reducible rfl
                rotate_left
                · simp only [Act.put, List.setIfInBounds_toArray, List.set_cons_zero, List.set_cons_succ, i64_w, i32_w]
                  rfl
                refine pure_ (i := 4) (N := some 66) (v := ?_) (a' := ?_) #[true, true, true, false, true, false, false, false, false, false, false, false] rfl rfl (by kernel_rfl) (fun _ _ _ h => h) (Or.inl ⟨by rfl, ?_⟩) ?_ ?_
                rotate_left
                · intro w'
                  go_simp
                  with_reducible rfl
                rotate_left
                · simp only [Act.put, List.setIfInBounds_toArray, List.set_cons_zero, List.set_cons_succ, i64_w, i32_w]
                  rfl
                refine pure_ (i := 5) (N := some 67) (v := ?_) (a' := ?_) #[true, true, true, false, true, true, false, false, false, false, false, false] rfl rfl (by kernel_rfl) (fun _ _ _ h => h) (Or.inl ⟨by rfl, ?_⟩) ?_ ?_
                rotate_left
                · intro w'
                  go_simp
                  with_reducible rfl
                rotate_left
                · simp only [Act.put, List.setIfInBounds_toArray, List.set_cons_zero, List.set_cons_succ, i64_w, i32_w]
                  rfl
                refine pure_ (i := 6) (N := some 68) (v := ?_) (a' := ?_) #[true, true, true, false, true, true, true, false, false, false, false, false] rfl rfl (by kernel_rfl) (fun _ _ _ h => h) (Or.inl ⟨by rfl, ?_⟩) ?_ ?_
                rotate_left
                · intro w'
                  go_simp
                  with_reducible rfl
                rotate_left
                · simp only [Act.put, List.setIfInBounds_toArray, List.set_cons_zero, List.set_cons_succ, i64_w, i32_w]
                  rfl
                refine pure_ (i := 7) (N := some 69) (v := ?_) (a' := ?_) #[true, true, true, false, true, true, true, true, false, false, false, false] rfl rfl (by kernel_rfl) (fun _ _ _ h => h) (Or.inl ⟨by rfl, ?_⟩) ?_ ?_
                rotate_left
                · intro w'
                  go_simp
                  with_reducible rfl
                rotate_left
                · simp only [Act.put, List.setIfInBounds_toArray, List.set_cons_zero, List.set_cons_succ, i64_w, i32_w]
                  rfl
                refine pure_ (i := 8) (N := some 70) (v := ?_) (a' := ?_) #[true, true, true, false, true, true, true, true, true, false, false, false] rfl rfl (by kernel_rfl) (fun _ _ _ h => h) (Or.inl ⟨by rfl, ?_⟩) ?_ ?_
                rotate_left
                · intro w'
                  go_simp
                  with_reducible rfl
                rotate_left
                · simp only [Act.put, List.setIfInBounds_toArray, List.set_cons_zero, List.set_cons_succ, i64_w, i32_w]
                  rfl
                refine pure_ (i := 9) (N := some 71) (v := ?_) (a' := ?_) #[true, true, true, false, true, true, true, true, true, true, false, false] rfl rfl (by kernel_rfl) (fun _ _ _ h => h) (Or.inl ⟨by rfl, ?_⟩) ?_ ?_
                rotate_left
                · intro w'
                  go_simp
                  with_reducible rfl
                rotate_left
                · simp only [Act.put, List.setIfInBounds_toArray, List.set_cons_zero, List.set_cons_succ, i64_w, i32_w]
                  rfl
                refine take_ (i := 3) (N := some 65) (v := ?_) (a' := ?_) #[true, true, true, true, true, true, true, true, true, true, false, false] rfl rfl (by kernel_rfl) (fun _ _ _ h => h) (Or.inl ⟨by rfl, ?_⟩) hHeld ?_ ?_
                rotate_left
                · rintro w' ⟨s0, s1⟩
                  go_simp
                  with_reducible rfl
                rotate_left
                · simp only [Act.put, List.setIfInBounds_toArray, List.set_cons_zero, List.set_cons_succ, i64_w, i32_w]
                  rfl
                refine take_ (i := 10) (N := some 72) (v := ?_) (a' := ?_) #[true, true, true, true, true, true, true, true, true, true, true, false] rfl rfl (by kernel_rfl) (fun _ _ _ h => h) (Or.inl ⟨by rfl, ?_⟩) hHeld ?_ ?_
                rotate_left
                · rintro w' ⟨s0, s1⟩
                  go_simp
                  with_reducible rfl
                rotate_left
                · simp only [Act.put, List.setIfInBounds_toArray, List.set_cons_zero, List.set_cons_succ, i64_w, i32_w]
                  rfl
                refine last_ (i := 11) (N := none) #[true, true, true, true, true, true, true, true, true, true, true, true] rfl rfl (by kernel_rfl) (by decide) (fun K hK => ?_)
                refine skip_ (w1 := ?_) (by rfl) rfl ?_ ?_
                rotate_left
                · go_simp
                  rfl
                refine hK.out _ _ ?_
                clear hK K
                refine done_ (by kernel_rfl) ?_
                -- REGION 13 B ENDS
                have hRR : R = (Dk.dieS { Dk.tick s with l := s.l ++ [((xn : Int), y)], sec := s.sec.set xn x }, 33) := by rw [HR2.out, if_pos (of_decide_eq_true HBC.out)]
                subst hRR
                have hp := Dk.D.put (s' := { Dk.tick s with l := s.l ++ [((xn : Int), y)], sec := s.sec.set xn x }) HMORE.out.1 xn (.string x) (Dk.arr_sec _ _ _ _ _ HMORE.out.1.hl x3) (by show (s.sec.set xn x).length = 256; rw [List.length_set]; exact HMORE.out.1.hl) rfl
                have HPP := Aside0.mk hp
                clear hp
                have hd := HDIE.out { Dk.tick s with l := s.l ++ [((xn : Int), y)], sec := s.sec.set xn x } base g mb (n + 1) _ _ HPP.out.1 (by show (s.l ++ [((xn : Int), y)]).length ≤ 100000; rw [List.length_append]; exact HLM.out) HIN.out.2.2.1
                have HDD := Aside0.mk hd
                clear hd
                go_wp2_with (go_at_call 29; (with_reducible refine HDD.out.mono ?_); rintro e w10 ⟨rfl, hd5, hb5⟩; have HD5 := Aside0.mk hd5; have HB5 := Aside0.mk ((HBB.out.trans HPP.out.2).trans hb5); clear hd5 hb5)
                go_ret
                exact ⟨rfl, ⟨_, _, Nat.le_refl _, HD5.out⟩, HB5.out⟩
          · have hput : Dk.putS (Dk.tick s) (xn : Int) x = { Dk.tick s with sec := s.sec.set xn x } := by
              unfold Dk.putS
              rw [if_pos (show (xn : Int) ∈ (Dk.tick s).l.map Prod.fst from of_decide_eq_true HBK.out)]
              rfl
            rw [hput] at HR2
            clear hput
            cases bc
            · have hRR : R = ({ Dk.tick s with sec := s.sec.set xn x }, 0) := by rw [HR2.out, if_neg (of_decide_eq_false HBC.out)]
              subst hRR
              cases bf
              · go_wp2_with (go_at_call 28; (with_reducible refine HCON.out.mono ?_); rintro e w6 ⟨rfl, ⟨nd, rfl⟩⟩; have HT := Aside0.mk (HT.out.drewN nd); have HB := Aside0.mk (HB.out.drewN nd); have s1 := HT.out.sec xn x3; have s2 := HT.out.fz xn)
                go_ret
                obtain ⟨p1, p2⟩ := Dk.D.put (s' := { Dk.tick s with sec := s.sec.set xn x }) HT.out xn (.string x) (Dk.arr_sec _ _ _ _ _ HT.out.hl x3) (by show (s.sec.set xn x).length = 256; rw [List.length_set]; exact HT.out.hl) rfl
                exact ⟨rfl, ⟨_, _, Nat.le_succ _, p1⟩, HB.out.trans p2⟩
              · exact absurd ⟨rfl, rfl⟩ HEA.out
            · have hRR : R = (Dk.dieS { Dk.tick s with sec := s.sec.set xn x }, 33) := by rw [HR2.out, if_pos (of_decide_eq_true HBC.out)]
              subst hRR
              cases bf
              all_goals
                have HPUT := Aside0.mk (fun (W : World) (h : Dk.D W base g (Dk.tick s) mb n (.slice A s.l.length c)) => Dk.D.put (s' := { Dk.tick s with sec := s.sec.set xn x }) h xn (.string x) (Dk.arr_sec _ _ _ _ _ h.hl x3) (by show (s.sec.set xn x).length = 256; rw [List.length_set]; exact h.hl) rfl)
                have HDIE2 := Aside0.mk (fun (W : World) (h : Dk.D W base g (Dk.tick s) mb n (.slice A s.l.length c)) => HDIE.out { Dk.tick s with sec := s.sec.set xn x } base g mb n _ _ (HPUT.out W h).1 hll HIN.out.2.2.1)
                go_wp2_with (first | (go_at_call 28; (with_reducible refine HCON.out.mono ?_); rintro e w6 ⟨rfl, ⟨nd, rfl⟩⟩; have HT := Aside0.mk (HT.out.drewN nd); have HB := Aside0.mk (HB.out.drewN nd); have s1 := HT.out.sec xn x3; have s2 := HT.out.fz xn) | (go_at_call 29; (with_reducible refine (HDIE2.out _ HT.out).mono ?_); rintro e w7 ⟨rfl, hd5, hb5⟩; have HD5 := Aside0.mk hd5; have HB5 := Aside0.mk ((HB.out.trans (HPUT.out _ HT.out).2).trans hb5); clear hd5 hb5))
                go_ret
                exact ⟨rfl, ⟨_, _, Nat.le_succ _, HD5.out⟩, HB5.out⟩

/-! ### cubbyref03_Disk_call: function 30 (by hand) -/
set_option maxHeartbeats 4000000 in
set_option maxRecDepth 100000 in
theorem cubbyref03_Disk_call.calls (s : Dk.S) (base g : Nat) (iv lv : Value) (w : World) (h : Rf.D w base g s iv lv) (hin : Dk.In s) :
    Calls Try.prog 30 #[.pointer (some ⟨g, 0, none⟩)] w fun e w' => e = .returned (.tuple #[.bool (decide (s.cut = 1)), .bool (decide (s.fail = 1))]) ∧ Rf.D w' base g (Dk.tick s) iv lv ∧ Rf.B base w w' := by
  have m3 : w.cell? ⟨g, 3, none⟩ = some (.int .i64 s.cut) := h.at 3
  have m5 : w.cell? ⟨g, 5, none⟩ = some (.int .i64 s.fail) := h.at 5
  have m6 : w.cell? ⟨g, 6, none⟩ = some (.int .i64 s.many) := h.at 6
  have f3 := h.fz 3
  have f5 := h.fz 5
  have f6 := h.fz 6
  have HH := Aside0.mk h
  have n1 : 0 ≤ s.many := hin.2.2.2.1.1
  have n2 : s.many ≤ 90000 := hin.2.2.2.1.2
  have u1 := hin.1
  have u2 := hin.2.1
  clear h hin
  obtain ⟨h1, b1⟩ := Rf.D.put (s' := { s with many := s.many + 1 }) HH.out 6 (.int .i64 (s.many + 1)) rfl rfl rfl
  by_cases c1 : 0 < s.cut
  · have d1 : Dk.dn s.cut = s.cut - 1 := by unfold Dk.dn; rw [if_pos c1]; exact Hw.w64 _ (by omega) (by omega)
    obtain ⟨h2, b2⟩ := Rf.D.put (s' := { s with many := s.many + 1, cut := Dk.dn s.cut }) h1 3 (.int .i64 (s.cut - 1)) (by rw [d1]; rfl) rfl rfl
    by_cases c2 : 0 < s.fail
    · have d2 : Dk.dn s.fail = s.fail - 1 := by unfold Dk.dn; rw [if_pos c2]; exact Hw.w64 _ (by omega) (by omega)
      obtain ⟨h3, b3⟩ := Rf.D.put (s' := Dk.tick s) h2 5 (.int .i64 (s.fail - 1)) (by unfold Dk.tick; rw [d2]; rfl) rfl rfl
      have HF := Aside0.mk h3
      have HB := Aside0.mk ((b1.trans b2).trans b3)
      clear h1 h2 h3 b1 b2 b3 d1 d2
      go_enter Try.func30, Try.ntmps30
      go_wp2
      go_ret2
      exact ⟨rfl, HF.out, HB.out⟩
    · have d2 : Dk.dn s.fail = s.fail := by unfold Dk.dn; rw [if_neg c2]
      have HF : Aside0 (Rf.D _ base g (Dk.tick s) iv lv) := ⟨by have h3 := h2; unfold Dk.tick; rw [d2]; exact h3⟩
      have HB := Aside0.mk (b1.trans b2)
      clear h1 h2 b1 b2 d1 d2
      go_enter Try.func30, Try.ntmps30
      go_wp2
      go_ret2
      exact ⟨rfl, HF.out, HB.out⟩
  · have d1 : Dk.dn s.cut = s.cut := by unfold Dk.dn; rw [if_neg c1]
    by_cases c2 : 0 < s.fail
    · have d2 : Dk.dn s.fail = s.fail - 1 := by unfold Dk.dn; rw [if_pos c2]; exact Hw.w64 _ (by omega) (by omega)
      obtain ⟨h3, b3⟩ := Rf.D.put (s' := Dk.tick s) h1 5 (.int .i64 (s.fail - 1)) (by unfold Dk.tick; rw [d1, d2]; rfl) rfl rfl
      have HF := Aside0.mk h3
      have HB := Aside0.mk (b1.trans b3)
      clear h1 h3 b1 b3 d1 d2
      go_enter Try.func30, Try.ntmps30
      go_wp2
      go_ret2
      exact ⟨rfl, HF.out, HB.out⟩
    · have d2 : Dk.dn s.fail = s.fail := by unfold Dk.dn; rw [if_neg c2]
      have HF : Aside0 (Rf.D _ base g (Dk.tick s) iv lv) := ⟨by have h3 := h1; unfold Dk.tick; rw [d1, d2]; exact h3⟩
      have HB := Aside0.mk b1
      clear h1 b1 d1 d2
      go_enter Try.func30, Try.ntmps30
      go_wp2
      go_ret2
      exact ⟨rfl, HF.out, HB.out⟩

/-! ### cubbyref03_Disk_put: function 31 (by hand) -/
set_option maxHeartbeats 8000000 in
set_option maxRecDepth 100000 in
theorem cubbyref03_Disk_put.calls (s : Dk.S) (base g : Nat) (iv lv : Value) (i : Int) (x : ByteArray) (w : World) (h : Rf.D w base g s iv lv) (hn : s.l.length ≤ 100000) (hi : 0 ≤ i ∧ i < 256) :
    Calls Try.prog 31 #[.pointer (some ⟨g, 0, none⟩), .int .i64 i, .string x] w fun e w' => e = .returned (.tuple #[]) ∧ (∃ lv', Rf.D w' base g (Dk.putS s i x) iv lv') ∧ Rf.B base w w' := by
  obtain ⟨ib, ic, rfl, hib, hibl, hity, hsec⟩ := h.form
  obtain ⟨A, c, rfl⟩ := Kd.R_slice h.rl
  obtain ⟨xn, rfl⟩ : ∃ xn : Nat, i = (xn : Int) := ⟨i.toNat, by omega⟩
  have x1 : (0 : Int) ≤ (xn : Int) := by omega
  have x2 : (xn : Int) < 256 := by omega
  have x3 : xn < 256 := by omega
  have HH := Aside0.mk h
  have HIB := Aside0.mk hib
  have HITY := Aside0.mk hity
  obtain ⟨k2, k3⟩ := hsec xn x3
  have m0 : w.cell? ⟨g, 0, none⟩ = some (.slice (some ⟨ib, 0, none⟩) 256 ic) := h.at 0
  have m1 : w.cell? ⟨g, 1, none⟩ = some (.slice A s.l.length c) := h.at 1
  have f1 : w.frozen? ⟨g, 1, none⟩ = false := h.fz 1
  clear h hibl hity hib hsec
  obtain ⟨y, hy⟩ : ∃ y, s.sec.getD xn ⟨#[]⟩ = y := ⟨_, rfl⟩
  rw [hy] at k2
  have HY := Aside0.mk hy
  clear hy
  go_enter Try.func31, Try.ntmps31
  go_wp2_with (fail)
  go_loopg [6, 7] s.l.length (fun gg v6 v7 wq => ∃ (j : Nat) (b : Bool), v6 = .bool b ∧ v7 = .int .i64 (j : Int) ∧ j ≤ s.l.length ∧ s.l.length - j ≤ gg ∧ Aside0 (b = decide ((xn : Int) ∈ (s.l.take j).map Prod.fst)) ∧ wq = w)
  case atStart => exact ⟨0, false, rfl, rfl, Nat.zero_le _, by omega, ⟨rfl⟩, rfl⟩
  case round =>
    obtain ⟨j, b, rfl, rfl, hj, hgg, HBX, rfl⟩ := hrel
    by_cases hjl : j < s.l.length
    · obtain ⟨b2, c2, e2, hle2, _, _, _, hrd⟩ := HH.out.loose (by show 0 < s.l.length; omega)
      injection e2 with e2 e3 e4
      clear e3
      subst e4
      subst e2
      obtain ⟨p, hp⟩ : ∃ p, s.l[j] = p := ⟨_, rfl⟩
      obtain ⟨k0, _⟩ := hrd j hjl
      rw [hp] at k0
      have HTK : Aside0 (decide ((xn : Int) ∈ (s.l.take (j + 1)).map Prod.fst) = (b || decide (p.1 = (xn : Int)))) := ⟨by
        rw [HBX.out, List.take_succ_eq_append_getElem hjl, hp, List.map_append, List.map_cons, List.map_nil]
        by_cases e1 : (xn : Int) ∈ (s.l.take j).map Prod.fst
        · rw [decide_eq_true e1, decide_eq_true (List.mem_append_left _ e1)]; rfl
        · rw [decide_eq_false e1]
          by_cases e2 : p.1 = (xn : Int)
          · rw [decide_eq_true e2, decide_eq_true (List.mem_append_right _ (by rw [e2]; exact List.mem_singleton_self _))]; rfl
          · rw [decide_eq_false e2, decide_eq_false (by
              intro e3
              rcases List.mem_append.1 e3 with e3 | e3
              · exact e1 e3
              · exact e2 (List.mem_singleton.1 e3).symm)]; rfl⟩
      clear hrd hp hle2
      have q1 : (0 : Int) ≤ (j : Int) := by omega
      have q2 : (j : Int) < (s.l.length : Int) := by omega
      obtain ⟨gk, rfl⟩ : ∃ q, gk = q + 1 := by
        cases gk with
        | zero => omega
        | succ q => exact ⟨q, rfl⟩
      cases b
      · go_wp2_with (fail)
        go_roundg gk
        case measure => omega
        case rel => exact ⟨j + 1, decide (p.1 = (xn : Int)), rfl, by rw [Int.natCast_add]; rfl, by omega, by omega, ⟨HTK.out.symm⟩, rfl⟩
      · go_wp2_with (fail)
        go_roundg gk
        case measure => omega
        case rel => exact ⟨j + 1, true, rfl, by rw [Int.natCast_add]; rfl, by omega, by omega, ⟨HTK.out.symm⟩, rfl⟩
    · have hbx : b = decide ((xn : Int) ∈ s.l.map Prod.fst) := by rw [HBX.out, List.take_of_length_le (by omega)]
      by_cases hm : (xn : Int) ∈ s.l.map Prod.fst
      · rw [decide_eq_true hm] at hbx
        subst hbx
        have hset := Rf.D.setsec HH.out HIB.out HITY.out xn x
        have HP1 : Aside0 (Rf.D _ base g (Dk.putS s (xn : Int) x) _ _) := ⟨by have e := hset.1; unfold Dk.putS; rw [if_pos hm]; exact e⟩
        have HP2 := Aside0.mk hset.2
        clear hset hm
        go_wp2_with (fail)
        go_end0
        exact ⟨rfl, ⟨_, HP1.out⟩, HP2.out⟩
      · rw [decide_eq_false hm] at hbx
        subst hbx
        have hPS : Dk.putS s (xn : Int) x = { s with l := s.l ++ [((xn : Int), y)], sec := s.sec.set xn x } := by unfold Dk.putS; rw [if_neg hm, ← HY.out]; rfl
        have HPS := Aside0.mk hPS
        clear hPS hm
        have HD := Aside0.mk HH.out.drew
        have HLN := Aside0.mk hn
        have HXB : Aside0 ((0 : Int) ≤ (xn : Int) ∧ (xn : Int) < 256) := ⟨⟨x1, x2⟩⟩
        go_wp2_with (fail)
        -- REGION 6 BEGINS
        refine start_ (n := 19) (S := fun w' => w'.cell? ⟨g, 0, none⟩ = some (.slice (some ⟨ib, 0, none⟩) 256 ic) ∧ w'.cell? ⟨g, 1, none⟩ = some (.slice A s.l.length c) ∧ w'.cell? ⟨ib, xn, none⟩ = some (.string y)) (ds := [18]) #[false, false, false, false, false, false, false, false, false, false, false, false, false, false, false, false, false, false, false] (by kernel_rfl) rfl rfl ⟨m0, m1, k2⟩ (fun hHeld => ?_)
        refine pure_ (i := 0) (N := some 32) (v := ?_) (a' := ?_) #[true, false, false, false, false, false, false, false, false, false, false, false, false, false, false, false, false, false, false] rfl rfl (by kernel_rfl) (fun _ _ _ h => h) (Or.inl ⟨by rfl, ?_⟩) ?_ ?_
        rotate_left
        · intro w'
          go_simp
          with_reducible rfl
        rotate_left
        · simp only [Act.put, List.setIfInBounds_toArray, List.set_cons_zero, List.set_cons_succ, i64_w, i32_w]
          rfl
        refine pure_ (i := 1) (N := some 33) (v := ?_) (a' := ?_) #[true, true, false, false, false, false, false, false, false, false, false, false, false, false, false, false, false, false, false] rfl rfl (by kernel_rfl) (fun _ _ _ h => h) (Or.inl ⟨by rfl, ?_⟩) ?_ ?_
        rotate_left
        · intro w'
          go_simp
          with_reducible rfl
        rotate_left
        · simp only [Act.put, List.setIfInBounds_toArray, List.set_cons_zero, List.set_cons_succ, i64_w, i32_w]
          rfl
        refine pure_ (i := 2) (N := some 34) (v := ?_) (a' := ?_) #[true, true, true, false, false, false, false, false, false, false, false, false, false, false, false, false, false, false, false] rfl rfl (by kernel_rfl) (fun _ _ _ h => h) (Or.inl ⟨by rfl, ?_⟩) ?_ ?_
        rotate_left
        · intro w'
          go_simp
          with_reducible rfl
        rotate_left
        · simp only [Act.put, List.setIfInBounds_toArray, List.set_cons_zero, List.set_cons_succ, i64_w, i32_w]
          rfl
        refine pure_ (i := 3) (N := some 35) (v := ?_) (a' := ?_) #[true, true, true, true, false, false, false, false, false, false, false, false, false, false, false, false, false, false, false] rfl rfl (by kernel_rfl) (fun _ _ _ h => h) (Or.inl ⟨by rfl, ?_⟩) ?_ ?_
        rotate_left
        · intro w'
          go_simp
          with_reducible rfl
        rotate_left
        · simp only [Act.put, List.setIfInBounds_toArray, List.set_cons_zero, List.set_cons_succ, i64_w, i32_w]
          rfl
        refine pure_ (i := 5) (N := some 37) (v := ?_) (a' := ?_) #[true, true, true, true, false, true, false, false, false, false, false, false, false, false, false, false, false, false, false] rfl rfl (by kernel_rfl) (fun _ _ _ h => h) (Or.inl ⟨by rfl, ?_⟩) ?_ ?_
        rotate_left
        · intro w'
          go_simp
          with_reducible rfl
        rotate_left
        · simp only [Act.put, List.setIfInBounds_toArray, List.set_cons_zero, List.set_cons_succ, i64_w, i32_w]
          rfl
        refine pure_ (i := 6) (N := some 38) (v := ?_) (a' := ?_) #[true, true, true, true, false, true, true, false, false, false, false, false, false, false, false, false, false, false, false] rfl rfl (by kernel_rfl) (fun _ _ _ h => h) (Or.inl ⟨by rfl, ?_⟩) ?_ ?_
        rotate_left
        · intro w'
          go_simp
          with_reducible rfl
        rotate_left
        · simp only [Act.put, List.setIfInBounds_toArray, List.set_cons_zero, List.set_cons_succ, i64_w, i32_w]
          rfl
        refine pure_ (i := 7) (N := some 39) (v := ?_) (a' := ?_) #[true, true, true, true, false, true, true, true, false, false, false, false, false, false, false, false, false, false, false] rfl rfl (by kernel_rfl) (fun _ _ _ h => h) (Or.inl ⟨by rfl, ?_⟩) ?_ ?_
        rotate_left
        · intro w'
          go_simp
          with_reducible rfl
        rotate_left
        · simp only [Act.put, List.setIfInBounds_toArray, List.set_cons_zero, List.set_cons_succ, i64_w, i32_w]
          rfl
        refine pure_ (i := 8) (N := some 40) (v := ?_) (a' := ?_) #[true, true, true, true, false, true, true, true, true, false, false, false, false, false, false, false, false, false, false] rfl rfl (by kernel_rfl) (fun _ _ _ h => h) (Or.inl ⟨by rfl, ?_⟩) ?_ ?_
        rotate_left
        · intro w'
          go_simp
          with_reducible rfl
        rotate_left
        · simp only [Act.put, List.setIfInBounds_toArray, List.set_cons_zero, List.set_cons_succ, i64_w, i32_w]
          rfl
        refine pure_ (i := 10) (N := some 42) (v := ?_) (a' := ?_) #[true, true, true, true, false, true, true, true, true, false, true, false, false, false, false, false, false, false, false] rfl rfl (by kernel_rfl) (fun _ _ _ h => h) (Or.inl ⟨by rfl, ?_⟩) ?_ ?_
        rotate_left
        · intro w'
          go_simp
          with_reducible rfl
        rotate_left
        · simp only [Act.put, List.setIfInBounds_toArray, List.set_cons_zero, List.set_cons_succ, i64_w, i32_w]
          rfl
        refine take_ (i := 4) (N := some 36) (v := ?_) (a' := ?_) #[true, true, true, true, true, true, true, true, true, false, true, false, false, false, false, false, false, false, false] rfl rfl (by kernel_rfl) (fun _ _ _ h => h) (Or.inl ⟨by rfl, ?_⟩) hHeld ?_ ?_
        rotate_left
        · rintro w' ⟨s0, s1, s2⟩
          go_simp
          with_reducible rfl
        rotate_left
        · simp only [Act.put, List.setIfInBounds_toArray, List.set_cons_zero, List.set_cons_succ, i64_w, i32_w]
          rfl
        refine take_ (i := 9) (N := some 41) (v := ?_) (a' := ?_) #[true, true, true, true, true, true, true, true, true, true, true, false, false, false, false, false, false, false, false] rfl rfl (by kernel_rfl) (fun _ _ _ h => h) (Or.inl ⟨by rfl, ?_⟩) hHeld ?_ ?_
        rotate_left
        · rintro w' ⟨s0, s1, s2⟩
          go_simp
          with_reducible rfl
        rotate_left
        · simp only [Act.put, List.setIfInBounds_toArray, List.set_cons_zero, List.set_cons_succ, i64_w, i32_w]
          rfl
        refine pure_ (i := 11) (N := some 43) (v := ?_) (a' := ?_) #[true, true, true, true, true, true, true, true, true, true, true, true, false, false, false, false, false, false, false] rfl rfl (by kernel_rfl) (fun _ _ _ h => h) (Or.inl ⟨by rfl, ?_⟩) ?_ ?_
        rotate_left
        · intro w'
          go_simp
          with_reducible rfl
        rotate_left
        · simp only [Act.put, List.setIfInBounds_toArray, List.set_cons_zero, List.set_cons_succ, i64_w, i32_w]
          rfl
        refine take_ (i := 12) (N := some 44) (v := ?_) (a' := ?_) #[true, true, true, true, true, true, true, true, true, true, true, true, true, false, false, false, false, false, false] rfl rfl (by kernel_rfl) (fun _ _ _ h => h) (Or.inl ⟨by rfl, ?_⟩) hHeld ?_ ?_
        rotate_left
        · rintro w' ⟨s0, s1, s2⟩
          go_simp
          with_reducible rfl
        rotate_left
        · simp only [Act.put, List.setIfInBounds_toArray, List.set_cons_zero, List.set_cons_succ, i64_w, i32_w]
          rfl
        refine pure_ (i := 13) (N := some 45) (v := ?_) (a' := ?_) #[true, true, true, true, true, true, true, true, true, true, true, true, true, true, false, false, false, false, false] rfl rfl (by kernel_rfl) (fun _ _ _ h => h) (Or.inl ⟨by rfl, ?_⟩) ?_ ?_
        rotate_left
        · intro w'
          go_simp
          with_reducible rfl
        rotate_left
        · simp only [Act.put, List.setIfInBounds_toArray, List.set_cons_zero, List.set_cons_succ, i64_w, i32_w]
          rfl
        refine one_ (i := 14) (N := some 46) #[true, true, true, true, true, true, true, true, true, true, true, true, true, true, true, false, false, false, false] rfl rfl (by kernel_rfl) (by decide) (fun K hK => ?_)
        refine value_ (w1 := ?_) (v := ?_) (by rfl) rfl ?_ ?_
        rotate_left 2
        · go_simp
          constructor
          · rfl
          · rfl
        have HK := Aside0.mk (Hw.blk_nw wr.drew (.cells #[.int .i64 (xn : Int), .string y] 65))
        have HD := Aside0.mk (Rf.D.alloc HD.out (.cells #[.int .i64 (xn : Int), .string y] 65))
        refine hK.out _ _ ⟨(HD.out.at 0), (HD.out.at 1), ((Rf.sec_row HD.out.ri HD.out.hl x3).trans (by rw [HY.out]))⟩ (fun hHeld => ?_)
        clear hK K
        refine norm_ (a' := ?_) ?_ ?_
        rotate_left
        · show Act.put _ (some 46) _ = _
          simp only [Act.put, List.setIfInBounds_toArray, List.set_cons_zero, List.set_cons_succ, i64_w, i32_w]
          rfl
        refine one_ (i := 15) (N := some 47) #[true, true, true, true, true, true, true, true, true, true, true, true, true, true, true, true, false, false, false] rfl rfl (by kernel_rfl) (by decide) (fun K hK => ?_)
        refine Rf.app_step Rf.K base (by rfl) (.tmp 36) (.tmp 46) 46 65 (.agg #[(.int .i64 0), (.string ⟨#[]⟩)]) 24 rfl (by kernel_rfl) (by kernel_rfl) rfl (by decide) (by decide) (.slice A s.l.length c) s.l ((xn : Int), y) [.int .i64 (xn : Int), .string y] wr.heap.size rfl rfl HK.out (Rf.K_mk _ _ _ _ _) HD.out.rl HD.out.hb (by have := HLN.out; omega) ?_
        intro v1 w9 hr9 hg9
        obtain ⟨Az, cz, ez⟩ := Kd.R_slice hr9
        rw [List.length_append, List.length_singleton] at ez
        subst ez
        have HROW := Aside0.mk (Rf.D.row HD.out HXB.out hr9 hg9)
        have HITY2 := Aside0.mk (Rf.D.ity HROW.out.2.2.1)
        have f1 : w9.frozen? ⟨g, 1, none⟩ = false := by simp [World.frozen?, HROW.out.1]
        have m1 : w9.cell? ⟨g, 1, none⟩ = some (.slice A s.l.length c) := cell_of_row w9 g 1 _ _ _ HROW.out.1
        clear hr9 hg9
        refine hK.out _ _ ⟨(cell_of_row w9 g 0 _ _ _ HROW.out.1), m1, ((Rf.sec_row HROW.out.2.1 HD.out.hl x3).trans (by rw [HY.out]))⟩ (fun hHeld => ?_)
        clear hK K
        refine norm_ (a' := ?_) ?_ ?_
        rotate_left
        · show Act.put _ (some 47) _ = _
          simp only [Act.put, List.setIfInBounds_toArray, List.set_cons_zero, List.set_cons_succ, i64_w, i32_w]
          rfl
        refine pure_ (i := 16) (N := some 48) (v := ?_) (a' := ?_) #[true, true, true, true, true, true, true, true, true, true, true, true, true, true, true, true, true, false, false] rfl rfl (by kernel_rfl) (fun _ _ _ h => h) (Or.inl ⟨by rfl, ?_⟩) ?_ ?_
        rotate_left
        · intro w'
          go_simp
          with_reducible rfl
        rotate_left
        · simp only [Act.put, List.setIfInBounds_toArray, List.set_cons_zero, List.set_cons_succ, i64_w, i32_w]
          rfl
        refine pure_ (i := 17) (N := some 49) (v := ?_) (a' := ?_) #[true, true, true, true, true, true, true, true, true, true, true, true, true, true, true, true, true, true, false] rfl rfl (by kernel_rfl) (fun _ _ _ h => h) (Or.inl ⟨by rfl, ?_⟩) ?_ ?_
        rotate_left
        · intro w'
          go_simp
          with_reducible rfl
        rotate_left
        · simp only [Act.put, List.setIfInBounds_toArray, List.set_cons_zero, List.set_cons_succ, i64_w, i32_w]
          rfl
        refine last_ (i := 18) (N := none) #[true, true, true, true, true, true, true, true, true, true, true, true, true, true, true, true, true, true, true] rfl rfl (by kernel_rfl) (by decide) (fun K hK => ?_)
        refine skip_ (w1 := ?_) (by rfl) rfl ?_ ?_
        rotate_left
        · go_simp
          rfl
        refine hK.out _ _ ?_
        clear hK K
        refine done_ (by kernel_rfl) ?_
        -- REGION 6 ENDS
        clear f1 m1
        generalize w9.setCell ⟨g, 1, none⟩ (.slice Az (s.l.length + 1) cz) = W9 at HROW HITY2 ⊢
        have HB := Aside0.mk ((Rf.B.drew (Rf.B.refl base wr)).trans ((Rf.B.alloc (Rf.B.refl base wr.drew) HH.out.drew.hb _).trans HROW.out.2.2.2))
        have HD := Aside0.mk HROW.out.2.2.1
        clear HROW
        have hset := Rf.D.setsec HD.out HIB.out HITY2.out xn x
        have HP1 := Aside0.mk hset.1
        have HP2 := Aside0.mk (HB.out.trans hset.2)
        have k2 : W9.cell? ⟨ib, xn, none⟩ = some (.string (s.sec.getD xn ⟨#[]⟩)) := Rf.sec_row HD.out.ri HD.out.hl x3
        have k3 : W9.frozen? ⟨ib, xn, none⟩ = false := by
          obtain ⟨cs, hcs⟩ := HITY2.out
          simp [World.frozen?, hcs]
        have m0 : W9.cell? ⟨g, 0, none⟩ = some (.slice (some ⟨ib, 0, none⟩) 256 ic) := HD.out.at 0
        clear hset
        go_wp2_with (fail)
        go_end0
        exact ⟨rfl, ⟨_, by rw [HPS.out]; exact HP1.out⟩, HP2.out⟩

end Go.Proofs.Ytbikejfjfliamaa.PDiskLasts

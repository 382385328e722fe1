-- By a program of this session (wip/tools/mkprint.py), for this claim.
import Derived.Test.YtbikejfjfliamaaPDiskLastsx0
import Derived.Test.YtbikejfjfliamaaPDiskLastsx1
import Derived.Test.YtbikejfjfliamaaPDiskLastsx2
namespace Go.Proofs.Ytbikejfjfliamaa.PDiskLasts
open Go.RowKit Go.Proofs.YtbikejfjfliamaaW.PrintWords Go.Proofs.YtbikejfjfliamaaW.PrintLast Go.Proofs.YtbikejfjfliamaaW.PrintMore
attribute [local go_sem] max2_int min2_int max_two min_two max_three min_three max_four min_four   -- for this text's walks alone
set_option linter.unusedVariables false
set_option linter.unusedSimpArgs false

/-! ### cubbyref03_Disk_die: function 32 (by hand) -/
set_option maxHeartbeats 8000000 in
set_option maxRecDepth 100000 in
theorem cubbyref03_Disk_die.calls (s : Dk.S) (base g : Nat) (iv lv : Value) (w : World) (h : Rf.D w base g s iv lv) (hn : s.l.length ≤ 100000) (hkp : 0 ≤ s.keep ∧ s.keep < 18446744073709551616) :
    Calls Try.prog 32 #[.pointer (some ⟨g, 0, none⟩)] w fun e w' => e = .returned (.tuple #[]) ∧ Rf.D w' base g (Dk.dieS s) iv (.slice none 0 0) ∧ Rf.B base w w' := by
  obtain ⟨ib, ic, rfl, hib, hibl, hity, _⟩ := h.form
  obtain ⟨A, c, rfl⟩ := Kd.R_slice h.rl
  have HH := Aside0.mk h
  have HIB := Aside0.mk hib
  have m4 : w.cell? ⟨g, 4, none⟩ = some (.int .u64 s.keep) := h.at 4
  clear h hibl hity hib
  go_enter Try.func32, Try.ntmps32
  go_wp2_with (fail)
  go_loopg [2, 3] s.l.length (fun gg v2 v3 wq => ∃ (i : Nat) (kk : Int) (sec : List ByteArray), v2 = .int .u64 kk ∧ v3 = .int .i64 (i : Int) ∧ i ≤ s.l.length ∧ s.l.length - i ≤ gg ∧ (0 ≤ kk ∧ kk < 18446744073709551616) ∧ Aside0 (i % 64 ≠ 0 → kk = Rf.rest s.keep i) ∧ Aside0 (Dk.dieF s.keep (s.l.drop i) i sec = Dk.dieF s.keep s.l 0 s.sec) ∧ Aside0 (Rf.D wq base g { s with sec := sec } (.slice (some ⟨ib, 0, none⟩) 256 ic) (.slice A s.l.length c)) ∧ Aside0 (Rf.B base w wq))
  case atStart => exact ⟨0, s.keep, s.sec, rfl, rfl, Nat.zero_le _, by omega, hkp, ⟨fun q => absurd rfl q⟩, ⟨rfl⟩, HH, ⟨Rf.B.refl _ _⟩⟩
  case round =>
    obtain ⟨i, kk, sec, rfl, rfl, hi, hgg, hkk, HK, HF, HD, HB⟩ := hrel
    have m1 : wr.cell? ⟨g, 1, none⟩ = some (.slice A s.l.length c) := HD.out.at 1
    by_cases hil : i < s.l.length
    · obtain ⟨b2, c2, e2, hle2, _, _, _, hrd⟩ := HD.out.loose (by show 0 < s.l.length; omega)
      injection e2 with e2 e3 e4
      clear e3
      subst e4
      subst e2
      obtain ⟨p, hp⟩ : ∃ p, s.l[i] = p := ⟨_, rfl⟩
      have hpm : p ∈ s.l := by rw [← hp]; exact List.getElem_mem hil
      have hpk := HH.out.kk p hpm
      have HDR : Aside0 (s.l.drop i = p :: s.l.drop (i + 1)) := ⟨by rw [List.drop_eq_getElem_cons hil, hp]⟩
      obtain ⟨k0, k1⟩ := hrd i hil
      replace k0 : wr.cell? ⟨b2, i * 2, none⟩ = some (.int .i64 p.1) := by rw [← hp]; exact k0
      replace k1 : wr.cell? ⟨b2, i * 2 + 1, none⟩ = some (.string p.2) := by rw [← hp]; exact k1
      obtain ⟨px, py⟩ := p
      obtain ⟨xn, rfl⟩ : ∃ xn : Nat, px = (xn : Int) := ⟨px.toNat, by have := hpk.1; simp only at this; omega⟩
      have x1 : (0 : Int) ≤ (xn : Int) := by omega
      have x2 : (xn : Int) < 256 := hpk.2
      have x3 : xn < 256 := by omega
      obtain ⟨b3, c3, e3, _, _, hty3, hsec⟩ := HD.out.form
      injection e3 with e3 _ e4
      injection e3 with e3
      injection e3 with e3
      subst e3
      subst e4
      obtain ⟨k2, k3⟩ := hsec xn x3
      have HTY := Aside0.mk hty3
      clear hrd hsec hp hpm hty3 hpk hle2
      have q1 : (0 : Int) ≤ (i : Int) := by omega
      have q2 : (i : Int) < (s.l.length : Int) := by omega
      have m0 : wr.cell? ⟨g, 0, none⟩ = some (.slice (some ⟨ib, 0, none⟩) 256 ic) := HD.out.at 0
      have m4 : wr.cell? ⟨g, 4, none⟩ = some (.int .u64 s.keep) := HD.out.at 4
      obtain ⟨gk, rfl⟩ : ∃ q, gk = q + 1 := by
        cases gk with
        | zero => omega
        | succ q => exact ⟨q, rfl⟩
      obtain ⟨K, hK⟩ : ∃ K, Rf.rest s.keep i = K := ⟨_, rfl⟩
      obtain ⟨hK1, hK2⟩ := Rf.rest_in s.keep i hkp
      have hlost := Rf.lost_eq s.keep i hkp
      rw [hK] at hK1 hK2 hlost
      have HLO := Aside0.mk hlost
      have HKE := Aside0.mk hK
      clear hlost
      by_cases h64 : (i : Int) % 64 = 0
      · have e64 : s.keep = K := by rw [← hK]; exact (Rf.rest_new s.keep i (by omega)).symm
        rw [e64] at m4
        clear hK e64
        by_cases hev : K % 2 = 0
        · go_wp2_with (fail)
          -- REGION 7 A BEGINS
          refine start_ (n := 22) (S := fun w' => w'.cell? ⟨g, 0, none⟩ = some (.slice (some ⟨ib, 0, none⟩) 256 ic) ∧ w'.cell? ⟨g, 1, none⟩ = some (.slice (some ⟨b2, 0, none⟩) s.l.length c) ∧ w'.cell? ⟨b2, i * 2, none⟩ = some (.int .i64 (xn : Int)) ∧ w'.cell? ⟨b2, i * 2 + 1, none⟩ = some (.string py)) (ds := [21]) #[false, false, false, false, false, false, false, false, false, false, false, false, false, false, false, false, false, false, false, false, false, false] (by kernel_rfl) rfl rfl ⟨m0, m1, k0, k1⟩ (fun hHeld => ?_)
          refine pure_ (i := 0) (N := some 27) (v := ?_) (a' := ?_) #[true, false, false, false, false, false, false, false, false, false, false, false, false, false, false, false, false, false, false, false, false, false] rfl rfl (by kernel_rfl) (fun _ _ _ h => h) (Or.inl ⟨by rfl, ?_⟩) ?_ ?_
          rotate_left
          · intro w'
            go_simp
            with_reducible rfl
          rotate_left
          · simp only [Act.put, List.setIfInBounds_toArray, List.set_cons_zero, List.set_cons_succ, i64_w, i32_w]
            rfl
          refine pure_ (i := 1) (N := some 28) (v := ?_) (a' := ?_) #[true, true, false, false, false, false, false, false, false, false, false, false, false, false, false, false, false, false, false, false, false, false] rfl rfl (by kernel_rfl) (fun _ _ _ h => h) (Or.inl ⟨by rfl, ?_⟩) ?_ ?_
          rotate_left
          · intro w'
            go_simp
            with_reducible rfl
          rotate_left
          · simp only [Act.put, List.setIfInBounds_toArray, List.set_cons_zero, List.set_cons_succ, i64_w, i32_w]
            rfl
          refine pure_ (i := 2) (N := some 29) (v := ?_) (a' := ?_) #[true, true, true, false, false, false, false, false, false, false, false, false, false, false, false, false, false, false, false, false, false, false] rfl rfl (by kernel_rfl) (fun _ _ _ h => h) (Or.inl ⟨by rfl, ?_⟩) ?_ ?_
          rotate_left
          · intro w'
            go_simp
            with_reducible rfl
          rotate_left
          · simp only [Act.put, List.setIfInBounds_toArray, List.set_cons_zero, List.set_cons_succ, i64_w, i32_w]
            rfl
          refine pure_ (i := 4) (N := some 31) (v := ?_) (a' := ?_) #[true, true, true, false, true, false, false, false, false, false, false, false, false, false, false, false, false, false, false, false, false, false] rfl rfl (by kernel_rfl) (fun _ _ _ h => h) (Or.inl ⟨by rfl, ?_⟩) ?_ ?_
          rotate_left
          · intro w'
            go_simp
            with_reducible rfl
          rotate_left
          · simp only [Act.put, List.setIfInBounds_toArray, List.set_cons_zero, List.set_cons_succ, i64_w, i32_w]
            rfl
          refine pure_ (i := 5) (N := some 32) (v := ?_) (a' := ?_) #[true, true, true, false, true, true, false, false, false, false, false, false, false, false, false, false, false, false, false, false, false, false] rfl rfl (by kernel_rfl) (fun _ _ _ h => h) (Or.inl ⟨by rfl, ?_⟩) ?_ ?_
          rotate_left
          · intro w'
            go_simp
            with_reducible rfl
          rotate_left
          · simp only [Act.put, List.setIfInBounds_toArray, List.set_cons_zero, List.set_cons_succ, i64_w, i32_w]
            rfl
          refine pure_ (i := 6) (N := some 33) (v := ?_) (a' := ?_) #[true, true, true, false, true, true, true, false, false, false, false, false, false, false, false, false, false, false, false, false, false, false] rfl rfl (by kernel_rfl) (fun _ _ _ h => h) (Or.inl ⟨by rfl, ?_⟩) ?_ ?_
          rotate_left
          · intro w'
            go_simp
            with_reducible rfl
          rotate_left
          · simp only [Act.put, List.setIfInBounds_toArray, List.set_cons_zero, List.set_cons_succ, i64_w, i32_w]
            rfl
          refine pure_ (i := 8) (N := some 35) (v := ?_) (a' := ?_) #[true, true, true, false, true, true, true, false, true, false, false, false, false, false, false, false, false, false, false, false, false, false] rfl rfl (by kernel_rfl) (fun _ _ _ h => h) (Or.inl ⟨by rfl, ?_⟩) ?_ ?_
          rotate_left
          · intro w'
            go_simp
            with_reducible rfl
          rotate_left
          · simp only [Act.put, List.setIfInBounds_toArray, List.set_cons_zero, List.set_cons_succ, i64_w, i32_w]
            rfl
          refine pure_ (i := 12) (N := some 39) (v := ?_) (a' := ?_) #[true, true, true, false, true, true, true, false, true, false, false, false, true, false, false, false, false, false, false, false, false, false] rfl rfl (by kernel_rfl) (fun _ _ _ h => h) (Or.inl ⟨by rfl, ?_⟩) ?_ ?_
          rotate_left
          · intro w'
            go_simp
            with_reducible rfl
          rotate_left
          · simp only [Act.put, List.setIfInBounds_toArray, List.set_cons_zero, List.set_cons_succ, i64_w, i32_w]
            rfl
          refine pure_ (i := 13) (N := some 40) (v := ?_) (a' := ?_) #[true, true, true, false, true, true, true, false, true, false, false, false, true, true, false, false, false, false, false, false, false, false] rfl rfl (by kernel_rfl) (fun _ _ _ h => h) (Or.inl ⟨by rfl, ?_⟩) ?_ ?_
          rotate_left
          · intro w'
            go_simp
            with_reducible rfl
          rotate_left
          · simp only [Act.put, List.setIfInBounds_toArray, List.set_cons_zero, List.set_cons_succ, i64_w, i32_w]
            rfl
          refine pure_ (i := 14) (N := some 41) (v := ?_) (a' := ?_) #[true, true, true, false, true, true, true, false, true, false, false, false, true, true, true, false, false, false, false, false, false, false] rfl rfl (by kernel_rfl) (fun _ _ _ h => h) (Or.inl ⟨by rfl, ?_⟩) ?_ ?_
          rotate_left
          · intro w'
            go_simp
            with_reducible rfl
          rotate_left
          · simp only [Act.put, List.setIfInBounds_toArray, List.set_cons_zero, List.set_cons_succ, i64_w, i32_w]
            rfl
          refine pure_ (i := 16) (N := some 43) (v := ?_) (a' := ?_) #[true, true, true, false, true, true, true, false, true, false, false, false, true, true, true, false, true, false, false, false, false, false] rfl rfl (by kernel_rfl) (fun _ _ _ h => h) (Or.inl ⟨by rfl, ?_⟩) ?_ ?_
          rotate_left
          · intro w'
            go_simp
            with_reducible rfl
          rotate_left
          · simp only [Act.put, List.setIfInBounds_toArray, List.set_cons_zero, List.set_cons_succ, i64_w, i32_w]
            rfl
          refine take_ (i := 3) (N := some 30) (v := ?_) (a' := ?_) #[true, true, true, true, true, true, true, false, true, false, false, false, true, true, true, false, true, false, false, false, false, false] rfl rfl (by kernel_rfl) (fun _ _ _ h => h) (Or.inl ⟨by rfl, ?_⟩) hHeld ?_ ?_
          rotate_left
          · rintro w' ⟨s0, s1, s2, s3⟩
            go_simp
            with_reducible rfl
          rotate_left
          · simp only [Act.put, List.setIfInBounds_toArray, List.set_cons_zero, List.set_cons_succ, i64_w, i32_w]
            rfl
          refine take_ (i := 7) (N := some 34) (v := ?_) (a' := ?_) #[true, true, true, true, true, true, true, true, true, false, false, false, true, true, true, false, true, false, false, false, false, false] rfl rfl (by kernel_rfl) (fun _ _ _ h => h) (Or.inl ⟨by rfl, ?_⟩) hHeld ?_ ?_
          rotate_left
          · rintro w' ⟨s0, s1, s2, s3⟩
            go_simp
            with_reducible rfl
          rotate_left
          · simp only [Act.put, List.setIfInBounds_toArray, List.set_cons_zero, List.set_cons_succ, i64_w, i32_w]
            rfl
          refine pure_ (i := 9) (N := some 36) (v := ?_) (a' := ?_) #[true, true, true, true, true, true, true, true, true, true, false, false, true, true, true, false, true, false, false, false, false, false] rfl rfl (by kernel_rfl) (fun _ _ _ h => h) (Or.inl ⟨by rfl, ?_⟩) ?_ ?_
          rotate_left
          · intro w'
            go_simp
            with_reducible rfl
          rotate_left
          · simp only [Act.put, List.setIfInBounds_toArray, List.set_cons_zero, List.set_cons_succ, i64_w, i32_w]
            rfl
          refine pure_ (i := 10) (N := some 37) (v := ?_) (a' := ?_) #[true, true, true, true, true, true, true, true, true, true, true, false, true, true, true, false, true, false, false, false, false, false] rfl rfl (by kernel_rfl) (fun _ _ _ h => h) (Or.inl ⟨by rfl, ?_⟩) ?_ ?_
          rotate_left
          · intro w'
            go_simp
            with_reducible rfl
          rotate_left
          · simp only [Act.put, List.setIfInBounds_toArray, List.set_cons_zero, List.set_cons_succ, i64_w, i32_w]
            rfl
          refine take_ (i := 11) (N := some 38) (v := ?_) (a' := ?_) #[true, true, true, true, true, true, true, true, true, true, true, true, true, true, true, false, true, false, false, false, false, false] rfl rfl (by kernel_rfl) (fun _ _ _ h => h) (Or.inl ⟨by rfl, ?_⟩) hHeld ?_ ?_
          rotate_left
          · rintro w' ⟨s0, s1, s2, s3⟩
            go_simp
            with_reducible rfl
          rotate_left
          · simp only [Act.put, List.setIfInBounds_toArray, List.set_cons_zero, List.set_cons_succ, i64_w, i32_w]
            rfl
          refine take_ (i := 15) (N := some 42) (v := ?_) (a' := ?_) #[true, true, true, true, true, true, true, true, true, true, true, true, true, true, true, true, true, false, false, false, false, false] rfl rfl (by kernel_rfl) (fun _ _ _ h => h) (Or.inl ⟨by rfl, ?_⟩) hHeld ?_ ?_
          rotate_left
          · rintro w' ⟨s0, s1, s2, s3⟩
            go_simp
            with_reducible rfl
          rotate_left
          · simp only [Act.put, List.setIfInBounds_toArray, List.set_cons_zero, List.set_cons_succ, i64_w, i32_w]
            rfl
          refine pure_ (i := 17) (N := some 44) (v := ?_) (a' := ?_) #[true, true, true, true, true, true, true, true, true, true, true, true, true, true, true, true, true, true, false, false, false, false] rfl rfl (by kernel_rfl) (fun _ _ _ h => h) (Or.inl ⟨by rfl, ?_⟩) ?_ ?_
          rotate_left
          · intro w'
            go_simp
            with_reducible rfl
          rotate_left
          · simp only [Act.put, List.setIfInBounds_toArray, List.set_cons_zero, List.set_cons_succ, i64_w, i32_w]
            rfl
          refine pure_ (i := 18) (N := some 45) (v := ?_) (a' := ?_) #[true, true, true, true, true, true, true, true, true, true, true, true, true, true, true, true, true, true, true, false, false, false] rfl rfl (by kernel_rfl) (fun _ _ _ h => h) (Or.inl ⟨by rfl, ?_⟩) ?_ ?_
          rotate_left
          · intro w'
            go_simp
            with_reducible rfl
          rotate_left
          · simp only [Act.put, List.setIfInBounds_toArray, List.set_cons_zero, List.set_cons_succ, i64_w, i32_w]
            rfl
          refine take_ (i := 19) (N := some 46) (v := ?_) (a' := ?_) #[true, true, true, true, true, true, true, true, true, true, true, true, true, true, true, true, true, true, true, true, false, false] rfl rfl (by kernel_rfl) (fun _ _ _ h => h) (Or.inl ⟨by rfl, ?_⟩) hHeld ?_ ?_
          rotate_left
          · rintro w' ⟨s0, s1, s2, s3⟩
            go_simp
            with_reducible rfl
          rotate_left
          · simp only [Act.put, List.setIfInBounds_toArray, List.set_cons_zero, List.set_cons_succ, i64_w, i32_w]
            rfl
          refine pure_ (i := 20) (N := some 47) (v := ?_) (a' := ?_) #[true, true, true, true, true, true, true, true, true, true, true, true, true, true, true, true, true, true, true, true, true, false] rfl rfl (by kernel_rfl) (fun _ _ _ h => h) (Or.inl ⟨by rfl, ?_⟩) ?_ ?_
          rotate_left
          · intro w'
            go_simp
            with_reducible rfl
          rotate_left
          · simp only [Act.put, List.setIfInBounds_toArray, List.set_cons_zero, List.set_cons_succ, i64_w, i32_w]
            rfl
          refine last_ (i := 21) (N := none) #[true, true, true, true, true, true, true, true, true, true, true, true, true, true, true, true, true, true, true, true, true, true] rfl rfl (by kernel_rfl) (by decide) (fun K hK => ?_)
          refine skip_ (w1 := ?_) (by rfl) rfl ?_ ?_
          rotate_left
          · go_simp
            rfl
          refine hK.out _ _ ?_
          clear hK K
          refine done_ (by kernel_rfl) ?_
          -- REGION 7 A ENDS
          have hset := Rf.D.setsec HD.out.drew HIB.out HTY.out xn py
          have HP1 := Aside0.mk hset.1
          have HP2 := Aside0.mk hset.2
          clear hset
          go_wp2_with (fail)
          go_roundg gk
          case measure => omega
          case rel => exact ⟨i + 1, K / 2, sec.set xn py, rfl, by rw [Int.natCast_add]; rfl, by omega, by omega, ⟨by omega, by omega⟩, ⟨fun q => by rw [← HKE.out]; exact Rf.rest_half s.keep i q⟩, ⟨by have e := HF.out; rw [HDR.out, Dk.dieF, if_pos (by rw [HLO.out]; exact decide_eq_true hev)] at e; exact e⟩, HP1, ⟨HB.out.drew.trans HP2.out⟩⟩
        · go_wp2_with (fail)
          go_roundg gk
          case measure => omega
          case rel => exact ⟨i + 1, K / 2, sec, rfl, by rw [Int.natCast_add]; rfl, by omega, by omega, ⟨by omega, by omega⟩, ⟨fun q => by rw [← HKE.out]; exact Rf.rest_half s.keep i q⟩, ⟨by have e := HF.out; rw [HDR.out, Dk.dieF, if_neg (by rw [HLO.out]; simp only [decide_eq_true_eq]; exact hev)] at e; exact e⟩, HD, HB⟩
      · have e64 : K = kk := by rw [← hK]; exact (HK.out (by omega)).symm
        subst e64
        clear hK
        by_cases hev : K % 2 = 0
        · go_wp2_with (fail)
          -- REGION 7 B BEGINS
          refine start_ (n := 22) (S := fun w' => w'.cell? ⟨g, 0, none⟩ = some (.slice (some ⟨ib, 0, none⟩) 256 ic) ∧ w'.cell? ⟨g, 1, none⟩ = some (.slice (some ⟨b2, 0, none⟩) s.l.length c) ∧ w'.cell? ⟨b2, i * 2, none⟩ = some (.int .i64 (xn : Int)) ∧ w'.cell? ⟨b2, i * 2 + 1, none⟩ = some (.string py)) (ds := [21]) #[false, false, false, false, false, false, false, false, false, false, false, false, false, false, false, false, false, false, false, false, false, false] (by kernel_rfl) rfl rfl ⟨m0, m1, k0, k1⟩ (fun hHeld => ?_)
          refine pure_ (i := 0) (N := some 27) (v := ?_) (a' := ?_) #[true, false, false, false, false, false, false, false, false, false, false, false, false, false, false, false, false, false, false, false, false, false] rfl rfl (by kernel_rfl) (fun _ _ _ h => h) (Or.inl ⟨by rfl, ?_⟩) ?_ ?_
          rotate_left
          · intro w'
            go_simp
            with_reducible rfl
          rotate_left
          · simp only [Act.put, List.setIfInBounds_toArray, List.set_cons_zero, List.set_cons_succ, i64_w, i32_w]
            rfl
          refine pure_ (i := 1) (N := some 28) (v := ?_) (a' := ?_) #[true, true, false, false, false, false, false, false, false, false, false, false, false, false, false, false, false, false, false, false, false, false] rfl rfl (by kernel_rfl) (fun _ _ _ h => h) (Or.inl ⟨by rfl, ?_⟩) ?_ ?_
          rotate_left
          · intro w'
            go_simp
            with_reducible rfl
          rotate_left
          · simp only [Act.put, List.setIfInBounds_toArray, List.set_cons_zero, List.set_cons_succ, i64_w, i32_w]
            rfl
          refine pure_ (i := 2) (N := some 29) (v := ?_) (a' := ?_) #[true, true, true, false, false, false, false, false, false, false, false, false, false, false, false, false, false, false, false, false, false, false] rfl rfl (by kernel_rfl) (fun _ _ _ h => h) (Or.inl ⟨by rfl, ?_⟩) ?_ ?_
          rotate_left
          · intro w'
            go_simp
            with_reducible rfl
          rotate_left
          · simp only [Act.put, List.setIfInBounds_toArray, List.set_cons_zero, List.set_cons_succ, i64_w, i32_w]
            rfl
          refine pure_ (i := 4) (N := some 31) (v := ?_) (a' := ?_) #[true, true, true, false, true, false, false, false, false, false, false, false, false, false, false, false, false, false, false, false, false, false] rfl rfl (by kernel_rfl) (fun _ _ _ h => h) (Or.inl ⟨by rfl, ?_⟩) ?_ ?_
          rotate_left
          · intro w'
            go_simp
            with_reducible rfl
          rotate_left
          · simp only [Act.put, List.setIfInBounds_toArray, List.set_cons_zero, List.set_cons_succ, i64_w, i32_w]
            rfl
          refine pure_ (i := 5) (N := some 32) (v := ?_) (a' := ?_) #[true, true, true, false, true, true, false, false, false, false, false, false, false, false, false, false, false, false, false, false, false, false] rfl rfl (by kernel_rfl) (fun _ _ _ h => h) (Or.inl ⟨by rfl, ?_⟩) ?_ ?_
          rotate_left
          · intro w'
            go_simp
            with_reducible rfl
          rotate_left
          · simp only [Act.put, List.setIfInBounds_toArray, List.set_cons_zero, List.set_cons_succ, i64_w, i32_w]
            rfl
          refine pure_ (i := 6) (N := some 33) (v := ?_) (a' := ?_) #[true, true, true, false, true, true, true, false, false, false, false, false, false, false, false, false, false, false, false, false, false, false] rfl rfl (by kernel_rfl) (fun _ _ _ h => h) (Or.inl ⟨by rfl, ?_⟩) ?_ ?_
          rotate_left
          · intro w'
            go_simp
            with_reducible rfl
          rotate_left
          · simp only [Act.put, List.setIfInBounds_toArray, List.set_cons_zero, List.set_cons_succ, i64_w, i32_w]
            rfl
          refine pure_ (i := 8) (N := some 35) (v := ?_) (a' := ?_) #[true, true, true, false, true, true, true, false, true, false, false, false, false, false, false, false, false, false, false, false, false, false] rfl rfl (by kernel_rfl) (fun _ _ _ h => h) (Or.inl ⟨by rfl, ?_⟩) ?_ ?_
          rotate_left
          · intro w'
            go_simp
            with_reducible rfl
          rotate_left
          · simp only [Act.put, List.setIfInBounds_toArray, List.set_cons_zero, List.set_cons_succ, i64_w, i32_w]
            rfl
          refine pure_ (i := 12) (N := some 39) (v := ?_) (a' := ?_) #[true, true, true, false, true, true, true, false, true, false, false, false, true, false, false, false, false, false, false, false, false, false] rfl rfl (by kernel_rfl) (fun _ _ _ h => h) (Or.inl ⟨by rfl, ?_⟩) ?_ ?_
          rotate_left
          · intro w'
            go_simp
            with_reducible rfl
          rotate_left
          · simp only [Act.put, List.setIfInBounds_toArray, List.set_cons_zero, List.set_cons_succ, i64_w, i32_w]
            rfl
          refine pure_ (i := 13) (N := some 40) (v := ?_) (a' := ?_) #[true, true, true, false, true, true, true, false, true, false, false, false, true, true, false, false, false, false, false, false, false, false] rfl rfl (by kernel_rfl) (fun _ _ _ h => h) (Or.inl ⟨by rfl, ?_⟩) ?_ ?_
          rotate_left
          · intro w'
            go_simp
            with_reducible rfl
          rotate_left
          · simp only [Act.put, List.setIfInBounds_toArray, List.set_cons_zero, List.set_cons_succ, i64_w, i32_w]
            rfl
          refine pure_ (i := 14) (N := some 41) (v := ?_) (a' := ?_) #[true, true, true, false, true, true, true, false, true, false, false, false, true, true, true, false, false, false, false, false, false, false] rfl rfl (by kernel_rfl) (fun _ _ _ h => h) (Or.inl ⟨by rfl, ?_⟩) ?_ ?_
          rotate_left
          · intro w'
            go_simp
            with_reducible rfl
          rotate_left
          · simp only [Act.put, List.setIfInBounds_toArray, List.set_cons_zero, List.set_cons_succ, i64_w, i32_w]
            rfl
          refine pure_ (i := 16) (N := some 43) (v := ?_) (a' := ?_) #[true, true, true, false, true, true, true, false, true, false, false, false, true, true, true, false, true, false, false, false, false, false] rfl rfl (by kernel_rfl) (fun _ _ _ h => h) (Or.inl ⟨by rfl, ?_⟩) ?_ ?_
          rotate_left
          · intro w'
            go_simp
            with_reducible rfl
          rotate_left
          · simp only [Act.put, List.setIfInBounds_toArray, List.set_cons_zero, List.set_cons_succ, i64_w, i32_w]
            rfl
          refine take_ (i := 3) (N := some 30) (v := ?_) (a' := ?_) #[true, true, true, true, true, true, true, false, true, false, false, false, true, true, true, false, true, false, false, false, false, false] rfl rfl (by kernel_rfl) (fun _ _ _ h => h) (Or.inl ⟨by rfl, ?_⟩) hHeld ?_ ?_
          rotate_left
          · rintro w' ⟨s0, s1, s2, s3⟩
            go_simp
            with_reducible rfl
          rotate_left
          · simp only [Act.put, List.setIfInBounds_toArray, List.set_cons_zero, List.set_cons_succ, i64_w, i32_w]
            rfl
          refine take_ (i := 7) (N := some 34) (v := ?_) (a' := ?_) #[true, true, true, true, true, true, true, true, true, false, false, false, true, true, true, false, true, false, false, false, false, false] rfl rfl (by kernel_rfl) (fun _ _ _ h => h) (Or.inl ⟨by rfl, ?_⟩) hHeld ?_ ?_
          rotate_left
          · rintro w' ⟨s0, s1, s2, s3⟩
            go_simp
            with_reducible rfl
          rotate_left
          · simp only [Act.put, List.setIfInBounds_toArray, List.set_cons_zero, List.set_cons_succ, i64_w, i32_w]
            rfl
          refine pure_ (i := 9) (N := some 36) (v := ?_) (a' := ?_) #[true, true, true, true, true, true, true, true, true, true, false, false, true, true, true, false, true, false, false, false, false, false] rfl rfl (by kernel_rfl) (fun _ _ _ h => h) (Or.inl ⟨by rfl, ?_⟩) ?_ ?_
          rotate_left
          · intro w'
            go_simp
            with_reducible rfl
          rotate_left
          · simp only [Act.put, List.setIfInBounds_toArray, List.set_cons_zero, List.set_cons_succ, i64_w, i32_w]
            rfl
          refine pure_ (i := 10) (N := some 37) (v := ?_) (a' := ?_) #[true, true, true, true, true, true, true, true, true, true, true, false, true, true, true, false, true, false, false, false, false, false] rfl rfl (by kernel_rfl) (fun _ _ _ h => h) (Or.inl ⟨by rfl, ?_⟩) ?_ ?_
          rotate_left
          · intro w'
            go_simp
            with_reducible rfl
          rotate_left
          · simp only [Act.put, List.setIfInBounds_toArray, List.set_cons_zero, List.set_cons_succ, i64_w, i32_w]
            rfl
          refine take_ (i := 11) (N := some 38) (v := ?_) (a' := ?_) #[true, true, true, true, true, true, true, true, true, true, true, true, true, true, true, false, true, false, false, false, false, false] rfl rfl (by kernel_rfl) (fun _ _ _ h => h) (Or.inl ⟨by rfl, ?_⟩) hHeld ?_ ?_
          rotate_left
          · rintro w' ⟨s0, s1, s2, s3⟩
            go_simp
            with_reducible rfl
          rotate_left
          · simp only [Act.put, List.setIfInBounds_toArray, List.set_cons_zero, List.set_cons_succ, i64_w, i32_w]
            rfl
          refine take_ (i := 15) (N := some 42) (v := ?_) (a' := ?_) #[true, true, true, true, true, true, true, true, true, true, true, true, true, true, true, true, true, false, false, false, false, false] rfl rfl (by kernel_rfl) (fun _ _ _ h => h) (Or.inl ⟨by rfl, ?_⟩) hHeld ?_ ?_
          rotate_left
          · rintro w' ⟨s0, s1, s2, s3⟩
            go_simp
            with_reducible rfl
          rotate_left
          · simp only [Act.put, List.setIfInBounds_toArray, List.set_cons_zero, List.set_cons_succ, i64_w, i32_w]
            rfl
          refine pure_ (i := 17) (N := some 44) (v := ?_) (a' := ?_) #[true, true, true, true, true, true, true, true, true, true, true, true, true, true, true, true, true, true, false, false, false, false] rfl rfl (by kernel_rfl) (fun _ _ _ h => h) (Or.inl ⟨by rfl, ?_⟩) ?_ ?_
          rotate_left
          · intro w'
            go_simp
            with_reducible rfl
          rotate_left
          · simp only [Act.put, List.setIfInBounds_toArray, List.set_cons_zero, List.set_cons_succ, i64_w, i32_w]
            rfl
          refine pure_ (i := 18) (N := some 45) (v := ?_) (a' := ?_) #[true, true, true, true, true, true, true, true, true, true, true, true, true, true, true, true, true, true, true, false, false, false] rfl rfl (by kernel_rfl) (fun _ _ _ h => h) (Or.inl ⟨by rfl, ?_⟩) ?_ ?_
          rotate_left
          · intro w'
            go_simp
            with_reducible rfl
          rotate_left
          · simp only [Act.put, List.setIfInBounds_toArray, List.set_cons_zero, List.set_cons_succ, i64_w, i32_w]
            rfl
          refine take_ (i := 19) (N := some 46) (v := ?_) (a' := ?_) #[true, true, true, true, true, true, true, true, true, true, true, true, true, true, true, true, true, true, true, true, false, false] rfl rfl (by kernel_rfl) (fun _ _ _ h => h) (Or.inl ⟨by rfl, ?_⟩) hHeld ?_ ?_
          rotate_left
          · rintro w' ⟨s0, s1, s2, s3⟩
            go_simp
            with_reducible rfl
          rotate_left
          · simp only [Act.put, List.setIfInBounds_toArray, List.set_cons_zero, List.set_cons_succ, i64_w, i32_w]
            rfl
          refine pure_ (i := 20) (N := some 47) (v := ?_) (a' := ?_) #[true, true, true, true, true, true, true, true, true, true, true, true, true, true, true, true, true, true, true, true, true, false] rfl rfl (by kernel_rfl) (fun _ _ _ h => h) (Or.inl ⟨by rfl, ?_⟩) ?_ ?_
          rotate_left
          · intro w'
            go_simp
            with_reducible rfl
          rotate_left
          · simp only [Act.put, List.setIfInBounds_toArray, List.set_cons_zero, List.set_cons_succ, i64_w, i32_w]
            rfl
          refine last_ (i := 21) (N := none) #[true, true, true, true, true, true, true, true, true, true, true, true, true, true, true, true, true, true, true, true, true, true] rfl rfl (by kernel_rfl) (by decide) (fun K hK => ?_)
          refine skip_ (w1 := ?_) (by rfl) rfl ?_ ?_
          rotate_left
          · go_simp
            rfl
          refine hK.out _ _ ?_
          clear hK K
          refine done_ (by kernel_rfl) ?_
          -- REGION 7 B ENDS
          have hset := Rf.D.setsec HD.out.drew HIB.out HTY.out xn py
          have HP1 := Aside0.mk hset.1
          have HP2 := Aside0.mk hset.2
          clear hset
          go_wp2_with (fail)
          go_roundg gk
          case measure => omega
          case rel => exact ⟨i + 1, K / 2, sec.set xn py, rfl, by rw [Int.natCast_add]; rfl, by omega, by omega, ⟨by omega, by omega⟩, ⟨fun q => by rw [← HKE.out]; exact Rf.rest_half s.keep i q⟩, ⟨by have e := HF.out; rw [HDR.out, Dk.dieF, if_pos (by rw [HLO.out]; exact decide_eq_true hev)] at e; exact e⟩, HP1, ⟨HB.out.drew.trans HP2.out⟩⟩
        · go_wp2_with (fail)
          go_roundg gk
          case measure => omega
          case rel => exact ⟨i + 1, K / 2, sec, rfl, by rw [Int.natCast_add]; rfl, by omega, by omega, ⟨by omega, by omega⟩, ⟨fun q => by rw [← HKE.out]; exact Rf.rest_half s.keep i q⟩, ⟨by have e := HF.out; rw [HDR.out, Dk.dieF, if_neg (by rw [HLO.out]; simp only [decide_eq_true_eq]; exact hev)] at e; exact e⟩, HD, HB⟩
    · have hd : s.l.drop i = [] := List.drop_eq_nil_of_le (by omega)
      have hf : sec = Dk.dieF s.keep s.l 0 s.sec := by have e := HF.out; rw [hd, Dk.dieF] at e; exact e
      obtain ⟨h1, b1⟩ := Rf.D.calm HD.out
      obtain ⟨h2, b2⟩ := Rf.D.put (s' := Dk.dieS s) h1 2 (.bool true) (by unfold Dk.dieS Rf.arr; rfl) (by show Dk.dieF s.keep s.l 0 s.sec = sec; exact hf.symm) rfl
      have f1 := HD.out.fz 1
      have f2 := HD.out.fz 2
      have m2 : wr.cell? ⟨g, 2, none⟩ = some (.bool s.off) := HD.out.at 2
      have HF1 := Aside0.mk h2
      have HB1 := Aside0.mk (HB.out.trans (b1.trans b2))
      clear h1 h2 b1 b2
      go_wp2_with (fail)
      go_end0
      exact ⟨rfl, HF1.out, HB1.out⟩

/-! ### cubbyref03_Disk_Write: function 14 (by hand) -/
set_option maxHeartbeats 8000000 in
set_option maxRecDepth 100000 in
theorem cubbyref03_Disk_Write.calls (s : Dk.S) (base g : Nat) (iv lv : Value) (i : Int) (x : ByteArray) (w : World) (h : Rf.D w base g s iv lv) (hin : Dk.In s) :
    Calls Try.prog 14 #[.pointer (some ⟨g, 0, none⟩), .int .i64 i, .string x] w fun e w' => e = .returned (.int .i64 (Dk.writ s i x).2) ∧ (∃ lv', Rf.D w' base g (Dk.writ s i x).1 iv lv') ∧ Rf.B base w w' := by
  have m2 : w.cell? ⟨g, 2, none⟩ = some (.bool s.off) := h.at 2
  have HH := Aside0.mk h
  have HIN := Aside0.mk hin
  have HDIE := Aside0.mk (fun s base g iv lv w => cubbyref03_Disk_die.calls s base g iv lv w)
  have HCALL := Aside0.mk (fun s base g iv lv w => cubbyref03_Disk_call.calls s base g iv lv w)
  have HPUT := Aside0.mk (fun s base g iv lv i x w => cubbyref03_Disk_put.calls s base g iv lv i x w)
  have HLT : Aside0 ((Dk.tick s).l.length ≤ 100000) := ⟨by have := hin.2.2.2.2; have := hin.2.2.2.1; show s.l.length ≤ 100000; omega⟩
  have HKT : Aside0 (0 ≤ (Dk.tick s).keep ∧ (Dk.tick s).keep < 18446744073709551616) := ⟨hin.2.2.1⟩
  have HLP : ∀ i : Int, Aside0 ((Dk.putS (Dk.tick s) i x).l.length ≤ 100000) := fun i => ⟨by
    have := hin.2.2.2.2
    have := hin.2.2.2.1
    unfold Dk.putS Dk.tick
    split
    · show s.l.length ≤ 100000
      omega
    · show (s.l ++ _).length ≤ 100000
      rw [List.length_append, List.length_singleton]
      omega⟩
  have HKP : ∀ i : Int, Aside0 (0 ≤ (Dk.putS (Dk.tick s) i x).keep ∧ (Dk.putS (Dk.tick s) i x).keep < 18446744073709551616) := fun i => ⟨by
    have := hin.2.2.1
    unfold Dk.putS Dk.tick
    split
    · exact this
    · exact this⟩
  clear h hin
  cases ho : s.off
  case true =>
    rw [ho] at m2
    have hb : Dk.writ s i x = (s, 33) := by unfold Dk.writ; rw [ho, if_pos rfl]
    rw [hb]
    clear hb HLP HKP
    go_enter Try.func14, Try.ntmps14
    go_wp2_with (fail)
    go_ret
    exact ⟨rfl, ⟨_, HH.out⟩, Rf.B.refl _ _⟩
  case false =>
    rw [ho] at m2
    by_cases hi : i < 0 ∨ 256 ≤ i
    · have hb : Dk.writ s i x = (s, 30) := by unfold Dk.writ; rw [ho, if_neg (by decide), if_pos hi]
      rw [hb]
      clear hb HLP HKP
      by_cases c1 : i < 0
      · clear hi
        go_enter Try.func14, Try.ntmps14
        go_wp2_with (fail)
        go_ret
        exact ⟨rfl, ⟨_, HH.out⟩, Rf.B.refl _ _⟩
      · have c2 : 256 ≤ i := hi.resolve_left c1
        have c3 : decide (i < 0) = false := decide_eq_false c1
        clear hi
        go_enter Try.func14, Try.ntmps14
        go_wp2_with (fail)
        go_ret
        exact ⟨rfl, ⟨_, HH.out⟩, Rf.B.refl _ _⟩
    · obtain ⟨xn, rfl⟩ : ∃ xn : Nat, i = (xn : Int) := ⟨i.toNat, by omega⟩
      have x1 : (0 : Int) ≤ (xn : Int) := by omega
      have x2 : (xn : Int) < 256 := by omega
      have x4 : ¬ (xn : Int) < 0 := by omega
      have x5 : ¬ 256 ≤ (xn : Int) := by omega
      have HXB : Aside0 ((0 : Int) ≤ (xn : Int) ∧ (xn : Int) < 256) := ⟨⟨x1, x2⟩⟩
      have HLP := HLP (xn : Int)
      have HKP := HKP (xn : Int)
      by_cases hs : 128 < x.size
      · have hb : Dk.writ s (xn : Int) x = (s, 31) := by unfold Dk.writ; rw [ho, if_neg (by decide), if_neg hi, if_pos hs]
        rw [hb]
        clear hb hi
        have hs1 : (128 : Int) < (x.size : Int) := by omega
        go_enter Try.func14, Try.ntmps14
        go_wp2_with (fail)
        go_ret
        exact ⟨rfl, ⟨_, HH.out⟩, Rf.B.refl _ _⟩
      · have hs1 : ¬ (128 : Int) < (x.size : Int) := by omega
        by_cases hc : s.cut = 1
        · have hc1 : decide (s.cut = 1) = true := decide_eq_true hc
          have hb : Dk.writ s (xn : Int) x = (Dk.dieS (Dk.putS (Dk.tick s) (xn : Int) x), 33) := by
            unfold Dk.writ
            rw [ho, if_neg (by decide), if_neg hi, if_neg hs, if_neg (fun q => q.2 hc), if_pos hc]
          rw [hb]
          clear hb hi
          go_enter Try.func14, Try.ntmps14
          go_wp2_with (first | (go_at_call 30; (with_reducible refine (HCALL.out s base g iv lv _ HH.out HIN.out).mono ?_); rintro e w3 ⟨rfl, hd3, hb3⟩; have HD3 := Aside0.mk hd3; have HB3 := Aside0.mk hb3; clear hd3 hb3) | (go_at_call 31; (with_reducible refine (HPUT.out (Dk.tick s) base g _ _ (xn : Int) x _ HD3.out HLT.out HXB.out).mono ?_); rintro e w4 ⟨rfl, ⟨lv4, hd4⟩, hb4⟩; have HD4 := Aside0.mk hd4; have HB4 := Aside0.mk hb4; clear hd4 hb4) | (go_at_call 32; (with_reducible refine (HDIE.out _ base g _ _ _ HD4.out HLP.out HKP.out).mono ?_); rintro e w5 ⟨rfl, hd5, hb5⟩; have HD5 := Aside0.mk hd5; have HB5 := Aside0.mk hb5; clear hd5 hb5))
          go_ret
          exact ⟨rfl, ⟨_, HD5.out⟩, HB3.out.trans (HB4.out.trans HB5.out)⟩
        · have hc1 : decide (s.cut = 1) = false := decide_eq_false hc
          by_cases hf : s.fail = 1
          · have hf1 : decide (s.fail = 1) = true := decide_eq_true hf
            have hb : Dk.writ s (xn : Int) x = (Dk.tick s, 32) := by
              unfold Dk.writ
              rw [ho, if_neg (by decide), if_neg hi, if_neg hs, if_pos ⟨hf, hc⟩]
            rw [hb]
            clear hb hi
            go_enter Try.func14, Try.ntmps14
            go_wp2_with (go_at_call 30; (with_reducible refine (HCALL.out s base g iv lv _ HH.out HIN.out).mono ?_); rintro e w3 ⟨rfl, hd3, hb3⟩; have HD3 := Aside0.mk hd3; have HB3 := Aside0.mk hb3; clear hd3 hb3)
            go_ret
            exact ⟨rfl, ⟨_, HD3.out⟩, HB3.out⟩
          · have hf1 : decide (s.fail = 1) = false := decide_eq_false hf
            have hb : Dk.writ s (xn : Int) x = (Dk.putS (Dk.tick s) (xn : Int) x, 0) := by
              unfold Dk.writ
              rw [ho, if_neg (by decide), if_neg hi, if_neg hs, if_neg (fun q => hf q.1), if_neg hc]
            rw [hb]
            clear hb hi
            go_enter Try.func14, Try.ntmps14
            go_wp2_with (first | (go_at_call 30; (with_reducible refine (HCALL.out s base g iv lv _ HH.out HIN.out).mono ?_); rintro e w3 ⟨rfl, hd3, hb3⟩; have HD3 := Aside0.mk hd3; have HB3 := Aside0.mk hb3; clear hd3 hb3) | (go_at_call 31; (with_reducible refine (HPUT.out (Dk.tick s) base g _ _ (xn : Int) x _ HD3.out HLT.out HXB.out).mono ?_); rintro e w4 ⟨rfl, ⟨lv4, hd4⟩, hb4⟩; have HD4 := Aside0.mk hd4; have HB4 := Aside0.mk hb4; clear hd4 hb4))
            go_ret
            exact ⟨rfl, ⟨_, HD4.out⟩, HB3.out.trans HB4.out⟩

/-! ### disk_Disk_Barrier: function 15 (by hand) -/
set_option maxHeartbeats 4000000 in
set_option maxRecDepth 100000 in
theorem disk_Disk_Barrier.calls (s : Dk.S) (base g mb n : Nat) (ov : Value) (w : World) (h : Dk.D w base g s mb n ov) (hin : Dk.In s) :
    Calls Try.prog 15 #[.pointer (some ⟨g, 0, none⟩)] w fun e w' => e = .returned (.int .i64 (Dk.barr s).2) ∧ (∃ ov', Dk.D w' base g (Dk.barr s).1 mb n ov') ∧ Dk.B base w w' := by
  have m2 : w.cell? ⟨g, 258, none⟩ = some (.bool s.off) := h.at 2
  have m6 : w.cell? ⟨g, 262, none⟩ = some (.int .i64 s.many) := h.at 6
  have f6 := h.fz 262
  have HH := Aside0.mk h
  have HIN := Aside0.mk hin
  have HDIE := Aside0.mk (fun s base g mb n ov w => disk_Disk_die.calls s base g mb n ov w)
  have HSET := Aside0.mk (fun s base g mb n ov w => disk_Disk_settle.calls s base g mb n ov w)
  have HDUE := Aside0.mk (fun b k cs t n w => disk_due.calls b k cs t n w)
  have n1 : 0 ≤ s.many := hin.2.2.2.1.1
  have n2 : s.many ≤ 90000 := hin.2.2.2.1.2
  have u1 := hin.1
  have u2 := hin.2.1
  have HL : Aside0 (s.l.length ≤ 100000) := ⟨by have := hin.2.2.2.2; omega⟩
  have HKP := Aside0.mk hin.2.2.1
  clear h hin
  have HLT : Aside0 ((Dk.tick s).l.length ≤ 100000) := ⟨HL.out⟩
  have HKT : Aside0 (0 ≤ (Dk.tick s).keep ∧ (Dk.tick s).keep < 18446744073709551616) := ⟨HKP.out⟩
  cases ho : s.off
  · rw [ho] at m2
    by_cases hc : s.cut = 1
    · have hc1 : decide (s.cut = 1) = true := decide_eq_true hc
      have hb : Dk.barr s = (Dk.dieS (Dk.tick s), 33) := by unfold Dk.barr; rw [ho, if_neg (by decide), if_pos hc]
      rw [hb]
      clear hb
      go_enter Try.func15, Try.ntmps15
      go_wp2_with (fail)
      obtain ⟨hp1, hp2⟩ := Dk.D.put (s' := { s with many := s.many + 1 }) HH.out 262 (.int .i64 (s.many + 1)) (by rw [Dk.arr_set s mb _ 6 _ HH.out.hl]; rfl) HH.out.hl rfl
      have HP := Aside0.mk hp1
      have HB := Aside0.mk hp2
      clear hp1 hp2 m6 f6 m2
      generalize w.setCell ⟨g, 262, none⟩ (.int .i64 (s.many + 1)) = W5 at HP HB ⊢
      have HP := Aside0.mk HP.out.drew
      have HO := Aside0.mk HP.out.ob
      have HK1 := Aside0.mk (Dk.arr259 { s with many := s.many + 1 } mb ov HH.out.hl)
      have HK2 := Aside0.mk (Dk.arr260 { s with many := s.many + 1 } mb ov (.int .i64 (Dk.dn s.cut)) HH.out.hl)
      have hn1 : -9223372036854775808 ≤ s.cut ∧ s.cut < 9223372036854775808 := by omega
      have hn2 : -9223372036854775808 ≤ s.fail ∧ s.fail < 9223372036854775808 := by omega
      go_region_held3 (fun _ => True) (trivial) ((first | (go_at_call 27; (with_reducible refine (HDUE.out g 259 _ _ _ _ HO.out HK1.out hn1).mono ?_); rintro e w3 ⟨rfl, ho3, hg3⟩; have HO3 := Aside0.mk ho3; have HG3 := Aside0.mk hg3; clear ho3 hg3) | (go_at_call 27; (with_reducible refine (HDUE.out g 260 _ _ _ _ HO3.out HK2.out hn2).mono ?_); rintro e w4 ⟨rfl, ho4, hg4⟩; have HO4 := Aside0.mk ho4; have HG4 := Aside0.mk hg4; clear ho4 hg4)))
      have HT := Aside0.mk (Dk.D.ticked HP.out HO3.out HG3.out HO4.out HG4.out)
      clear HO HK1 HK2 HP HO3 HO4 HG3 HG4
      go_wp2_with (go_at_call 29; (with_reducible refine (HDIE.out _ base g mb n _ _ HT.out.1 HLT.out HKT.out).mono ?_); rintro e w5 ⟨rfl, hd5, hb5⟩; have HD5 := Aside0.mk hd5; have HB5 := Aside0.mk hb5; clear hd5 hb5)
      go_ret
      exact ⟨rfl, ⟨_, HD5.out⟩, (HB.out.trans (Dk.B.drew (Dk.B.refl _ _))).trans (HT.out.2.trans HB5.out)⟩
    · have hc1 : decide (s.cut = 1) = false := decide_eq_false hc
      by_cases hf : s.fail = 1
      · have hf1 : decide (s.fail = 1) = true := decide_eq_true hf
        have hb : Dk.barr s = (Dk.tick s, 32) := by unfold Dk.barr; rw [ho, if_neg (by decide), if_neg hc, if_pos hf]
        rw [hb]
        clear hb
        go_enter Try.func15, Try.ntmps15
        go_wp2_with (fail)
        obtain ⟨hp1, hp2⟩ := Dk.D.put (s' := { s with many := s.many + 1 }) HH.out 262 (.int .i64 (s.many + 1)) (by rw [Dk.arr_set s mb _ 6 _ HH.out.hl]; rfl) HH.out.hl rfl
        have HP := Aside0.mk hp1
        have HB := Aside0.mk hp2
        clear hp1 hp2 m6 f6 m2
        generalize w.setCell ⟨g, 262, none⟩ (.int .i64 (s.many + 1)) = W5 at HP HB ⊢
        have HP := Aside0.mk HP.out.drew
        have HO := Aside0.mk HP.out.ob
        have HK1 := Aside0.mk (Dk.arr259 { s with many := s.many + 1 } mb ov HH.out.hl)
        have HK2 := Aside0.mk (Dk.arr260 { s with many := s.many + 1 } mb ov (.int .i64 (Dk.dn s.cut)) HH.out.hl)
        have hn1 : -9223372036854775808 ≤ s.cut ∧ s.cut < 9223372036854775808 := by omega
        have hn2 : -9223372036854775808 ≤ s.fail ∧ s.fail < 9223372036854775808 := by omega
        go_region_held3 (fun _ => True) (trivial) ((first | (go_at_call 27; (with_reducible refine (HDUE.out g 259 _ _ _ _ HO.out HK1.out hn1).mono ?_); rintro e w3 ⟨rfl, ho3, hg3⟩; have HO3 := Aside0.mk ho3; have HG3 := Aside0.mk hg3; clear ho3 hg3) | (go_at_call 27; (with_reducible refine (HDUE.out g 260 _ _ _ _ HO3.out HK2.out hn2).mono ?_); rintro e w4 ⟨rfl, ho4, hg4⟩; have HO4 := Aside0.mk ho4; have HG4 := Aside0.mk hg4; clear ho4 hg4)))
        have HT := Aside0.mk (Dk.D.ticked HP.out HO3.out HG3.out HO4.out HG4.out)
        clear HO HK1 HK2 HP HO3 HO4 HG3 HG4
        go_wp2_with (fail)
        go_ret
        exact ⟨rfl, ⟨_, HT.out.1⟩, (HB.out.trans (Dk.B.drew (Dk.B.refl _ _))).trans HT.out.2⟩
      · have hf1 : decide (s.fail = 1) = false := decide_eq_false hf
        have hb : Dk.barr s = ({ Dk.tick s with l := [] }, 0) := by unfold Dk.barr; rw [ho, if_neg (by decide), if_neg hc, if_neg hf]
        rw [hb]
        clear hb
        go_enter Try.func15, Try.ntmps15
        go_wp2_with (fail)
        obtain ⟨hp1, hp2⟩ := Dk.D.put (s' := { s with many := s.many + 1 }) HH.out 262 (.int .i64 (s.many + 1)) (by rw [Dk.arr_set s mb _ 6 _ HH.out.hl]; rfl) HH.out.hl rfl
        have HP := Aside0.mk hp1
        have HB := Aside0.mk hp2
        clear hp1 hp2 m6 f6 m2
        generalize w.setCell ⟨g, 262, none⟩ (.int .i64 (s.many + 1)) = W5 at HP HB ⊢
        have HP := Aside0.mk HP.out.drew
        have HO := Aside0.mk HP.out.ob
        have HK1 := Aside0.mk (Dk.arr259 { s with many := s.many + 1 } mb ov HH.out.hl)
        have HK2 := Aside0.mk (Dk.arr260 { s with many := s.many + 1 } mb ov (.int .i64 (Dk.dn s.cut)) HH.out.hl)
        have hn1 : -9223372036854775808 ≤ s.cut ∧ s.cut < 9223372036854775808 := by omega
        have hn2 : -9223372036854775808 ≤ s.fail ∧ s.fail < 9223372036854775808 := by omega
        go_region_held3 (fun _ => True) (trivial) ((first | (go_at_call 27; (with_reducible refine (HDUE.out g 259 _ _ _ _ HO.out HK1.out hn1).mono ?_); rintro e w3 ⟨rfl, ho3, hg3⟩; have HO3 := Aside0.mk ho3; have HG3 := Aside0.mk hg3; clear ho3 hg3) | (go_at_call 27; (with_reducible refine (HDUE.out g 260 _ _ _ _ HO3.out HK2.out hn2).mono ?_); rintro e w4 ⟨rfl, ho4, hg4⟩; have HO4 := Aside0.mk ho4; have HG4 := Aside0.mk hg4; clear ho4 hg4)))
        have HT := Aside0.mk (Dk.D.ticked HP.out HO3.out HG3.out HO4.out HG4.out)
        clear HO HK1 HK2 HP HO3 HO4 HG3 HG4
        go_wp2_with (go_at_call 33; (with_reducible refine (HSET.out _ base g mb n _ _ HT.out.1 HLT.out).mono ?_); rintro e w5 ⟨rfl, hd5, hb5⟩; have HD5 := Aside0.mk hd5; have HB5 := Aside0.mk hb5; clear hd5 hb5)
        go_ret
        exact ⟨rfl, ⟨_, HD5.out⟩, (HB.out.trans (Dk.B.drew (Dk.B.refl _ _))).trans (HT.out.2.trans HB5.out)⟩
  · rw [ho] at m2
    have hb : Dk.barr s = (s, 33) := by unfold Dk.barr; rw [ho, if_pos rfl]
    rw [hb]
    clear hb
    go_enter Try.func15, Try.ntmps15
    go_wp2_with (fail)
    go_ret
    exact ⟨rfl, ⟨_, HH.out⟩, Dk.B.refl _ _⟩

/-! ### disk_Disk_Dead: function 17 (by hand) -/
set_option maxHeartbeats 4000000 in
set_option maxRecDepth 100000 in
theorem disk_Disk_Dead.calls (s : Dk.S) (base g mb n : Nat) (ov : Value) (w : World) (h : Dk.D w base g s mb n ov) :
    Calls Try.prog 17 #[.pointer (some ⟨g, 0, none⟩)] w fun e w' => e = .returned (.bool s.off) ∧ w' = w := by
  have m2 : w.cell? ⟨g, 258, none⟩ = some (.bool s.off) := h.at 2
  clear h
  go_enter Try.func17, Try.ntmps17
  go_wp2
  go_ret
  exact ⟨rfl, rfl⟩

/-! ### disk_Disk_Read: function 21 (by hand) -/
set_option maxHeartbeats 4000000 in
set_option maxRecDepth 100000 in
theorem disk_Disk_Read.calls (s : Dk.S) (base g mb n : Nat) (ov : Value) (i : Int) (w : World) (h : Dk.D w base g s mb n ov) :
    Calls Try.prog 21 #[.pointer (some ⟨g, 0, none⟩), .int .i64 i] w fun e w' => e = .returned (.tuple #[.string (Dk.read s i).1, .int .i64 (Dk.read s i).2]) ∧ w' = w := by
  have m2 : w.cell? ⟨g, 258, none⟩ = some (.bool s.off) := h.at 2
  unfold Dk.read
  cases ho : s.off
  · rw [ho] at m2
    rw [if_neg (by decide)]
    by_cases c1 : i < 0
    · rw [if_pos (.inl c1)]
      have c2 : decide (i < 0) = true := decide_eq_true c1
      clear h
      go_enter Try.func21, Try.ntmps21
      go_wp2
      go_ret2
      exact ⟨rfl, rfl⟩
    · have c2 : decide (i < 0) = false := decide_eq_false c1
      by_cases c3 : 256 ≤ i
      · rw [if_pos (.inr c3)]
        clear h
        go_enter Try.func21, Try.ntmps21
        go_wp2
        go_ret2
        exact ⟨rfl, rfl⟩
      · rw [if_neg (fun q => q.elim c1 c3)]
        obtain ⟨x, rfl⟩ : ∃ x : Nat, i = (x : Int) := ⟨i.toNat, by omega⟩
        have x1 : (0 : Int) ≤ (x : Int) := by omega
        have x2 : (x : Int) < 256 := by omega
        have m6 := h.sec x (by omega)
        rw [Int.toNat_natCast]
        clear h
        go_enter Try.func21, Try.ntmps21
        go_wp2
        go_ret2
        exact ⟨rfl, rfl⟩
  · rw [ho] at m2
    rw [if_pos rfl]
    clear h
    go_enter Try.func21, Try.ntmps21
    go_wp2
    go_ret2
    exact ⟨rfl, rfl⟩

/-! ### disk_Disk_Power: function 22 (by hand) -/
set_option maxHeartbeats 4000000 in
set_option maxRecDepth 100000 in
theorem disk_Disk_Power.calls (s : Dk.S) (base g mb n : Nat) (ov : Value) (w : World) (h : Dk.D w base g s mb n ov) :
    Calls Try.prog 22 #[.pointer (some ⟨g, 0, none⟩)] w fun e w' => e = .returned (.tuple #[]) ∧ Dk.D w' base g (Dk.powS s) mb n ov ∧ Dk.B base w w' := by
  have m2 : w.cell? ⟨g, 258, none⟩ = some (.bool s.off) := h.at 2
  have m3 : w.cell? ⟨g, 259, none⟩ = some (.int .i64 s.cut) := h.at 3
  have m4 : w.cell? ⟨g, 260, none⟩ = some (.int .i64 s.fail) := h.at 4
  have f2 := h.fz 258
  have f3 := h.fz 259
  have f4 := h.fz 260
  have HH := Aside0.mk h
  clear h
  unfold Dk.powS
  cases ho : s.off
  · rw [ho] at m2
    rw [if_neg (by decide)]
    go_enter Try.func22, Try.ntmps22
    go_wp2
    go_end0
    exact ⟨rfl, HH.out, Dk.B.refl _ _⟩
  · rw [ho] at m2
    rw [if_pos rfl]
    go_enter Try.func22, Try.ntmps22
    go_wp2
    go_end0
    obtain ⟨h1, b1⟩ := Dk.D.put (s' := { s with off := false }) HH.out 258 (.bool false) (by rw [Dk.arr_set s mb _ 2 _ HH.out.hl]; rfl) HH.out.hl rfl
    obtain ⟨h2, b2⟩ := Dk.D.put (s' := { s with off := false, cut := 0 }) h1 259 (.int .i64 0) (by rw [Dk.arr_set { s with off := false } mb _ 3 _ HH.out.hl]; rfl) HH.out.hl rfl
    obtain ⟨h3, b3⟩ := Dk.D.put (s' := { s with off := false, cut := 0, fail := 0 }) h2 260 (.int .i64 0) (by rw [Dk.arr_set { s with off := false, cut := 0 } mb _ 4 _ HH.out.hl]; rfl) HH.out.hl rfl
    exact ⟨rfl, h3, (b1.trans b2).trans b3⟩

/-! ### cubbylaw03_heavy: function 23 -/
def cubbylaw03_heavy.l0 : Nat → List (S44) → Int → Int → Option (Bool)
  | 0, _, _, _ => none
  | k + 1, x0, x3, x4 => if x4 < (x0.length : Int) then (if x3 ≤ 4096 then (if 0 ≤ x4 then (cubbylaw03_heavy.l0 k x0 (wrap64 (x3 + (mn (((rd_T44 x0 x4).f2).size : Int) 1048576))) (wrap64 (x4 + 1))) else (none)) else (if x3 > 4096 then (some true) else (some (decide ((x0.length : Int) > 200))))) else (if x3 > 4096 then (some true) else (some (decide ((x0.length : Int) > 200))))
def cubbylaw03_heavy.f (k : Nat) (l0 : List (S44)) : Option (Bool) := cubbylaw03_heavy.l0 k l0 (l0.length : Int) 0
theorem cubbylaw03_heavy.mono_l : ∀ k, (∀ y0 y1 y2, LeO (cubbylaw03_heavy.l0 k y0 y1 y2) (cubbylaw03_heavy.l0 (k + 1) y0 y1 y2))
  | 0 => fun _ _ _ r h => by simp [cubbylaw03_heavy.l0] at h
  | k + 1 => by
    have ih0 := cubbylaw03_heavy.mono_l k
    · intro y0 y1 y2
      unfold cubbylaw03_heavy.l0
      repeat' first
      | (with_reducible exact ih0 _ _ _)
      | (with_reducible exact LeO.refl _)
      | (with_reducible exact LeO.none _)
      | (with_reducible refine LeO.ite ?_ ?_)
      | (with_reducible refine LeO.bind ?_ (fun _ => ?_))
      | exact ih0 _ _ _
      | exact LeO.none _
      | refine LeO.ite ?_ ?_
      | refine LeO.bind ?_ (fun _ => ?_)
theorem cubbylaw03_heavy.mono : ∀ a0 k, LeO (cubbylaw03_heavy.f k a0) (cubbylaw03_heavy.f (k + 1) a0) := by
  intro a0 k
  have ih0 := cubbylaw03_heavy.mono_l k
  unfold cubbylaw03_heavy.f
  repeat' first
      | (with_reducible exact ih0 _ _ _)
      | (with_reducible exact LeO.refl _)
      | (with_reducible exact LeO.none _)
      | (with_reducible refine LeO.ite ?_ ?_)
      | (with_reducible refine LeO.bind ?_ (fun _ => ?_))
      | exact ih0 _ _ _
      | exact LeO.none _
      | refine LeO.ite ?_ ?_
      | refine LeO.bind ?_ (fun _ => ?_)
set_option maxHeartbeats 8000000 in
set_option maxRecDepth 100000 in
theorem cubbylaw03_heavy.calls (k : Nat) (A0 : Option Addr) (c0 : Nat) (l0 : List (S44)) (r : Bool) (w : World) (hr0 : Kd.C k44 w A0 l0.length l0) (hc0 : l0.length ≤ c0) (h : cubbylaw03_heavy.f k l0 = some r) :
    Calls Try.prog 23 #[.slice A0 l0.length c0] w fun e w' => e = .returned (.bool r) ∧ Below w.heap.size w w' := by
  have HR0 := Aside0.mk hr0
  have HC0 := Aside0.mk hc0
  clear hr0 hc0
  have HB := Aside0.mk (Below.refl w.heap.size w)
  have H : (cubbylaw03_heavy.l0 k l0 (l0.length : Int) 0) = some r := h
  clear h
  have H' := Aside0.mk H
  clear H
  go_enter Try.func23, Try.ntmps23
  go_wp2
  go_loopg [3, 4] k (fun kq v3 v4 w' => ∃ (x3_1 : Int) (x4_1 : Int), v3 = .int .i64 x3_1 ∧ v4 = .int .i64 x4_1 ∧ Aside0 (cubbylaw03_heavy.l0 kq l0 x3_1 x4_1 = some r) ∧ Aside0 (kq ≤ k) ∧ Aside0 (Below w.heap.size w w'))
  case atStart => exact ⟨((l0.length : Int)), (0), (by first | rfl | (simp; done) | (simp [*]; done)), (by first | rfl | (simp; done) | (simp [*]; done)), H', ⟨Nat.le_refl _⟩, ⟨by repeat (first | (with_reducible first | exact HB.out | apply below_alloc | apply pw_below_drewN | apply below_drew1) | exact HB.out)⟩⟩
  case round =>
    clear H'
    obtain ⟨x3_1, x4_1, rfl, rfl, HA, HK1, HB⟩ := hrel
    cases gk with
    | zero => exact absurd HA.out (by simp [cubbylaw03_heavy.l0])
    | succ k1 =>
      have H := HA.out
      clear HA
      simp only [cubbylaw03_heavy.l0] at H
      by_cases c2 : x4_1 < (l0.length : Int)
      · rw [if_pos c2] at H
        have c2b0 : decide (x4_1 < (l0.length : Int)) = true := decide_eq_true c2
        clear c2
        by_cases c3 : x3_1 ≤ 4096
        · rw [if_pos c3] at H
          have c3b0 : decide (x3_1 ≤ 4096) = true := decide_eq_true c3
          clear c3
          by_cases c4 : 0 ≤ x4_1
          · rw [if_pos c4] at H
            have c4b0 : decide (0 ≤ x4_1) = true := decide_eq_true c4
            clear c4
            obtain ⟨ji5, hji5⟩ : ∃ j_ : Int, (mn (((rd_T44 l0 x4_1).f2).size : Int) 1048576) = j_ := ⟨_, rfl⟩
            replace H : (cubbylaw03_heavy.l0 k1 l0 (wrap64 (x3_1 + (ji5))) (wrap64 (x4_1 + 1))) = some r := by first | (rw [hji5] at H; exact H) | (simp only [hji5] at H ⊢; exact H)
            have hji5_ : (if 1048576 < (((rd_T44 l0 x4_1).f2).size : Int) then 1048576 else (((rd_T44 l0 x4_1).f2).size : Int)) = ji5 := hji5
            have H' := Aside0.mk H
            clear H
            have p103 : 0 ≤ (x4_1 : Int) := of_decide_eq_true (by first | (with_reducible assumption) | assumption)
            have q103 : x4_1 < (l0.length : Int) := of_decide_eq_true (by first | (with_reducible assumption) | assumption)
            obtain ⟨ad103, e103, hx103_0, hx103_1, hx103_2, hx103_3⟩ := at_T44 HR0.out x4_1 p103 q103
            cases e103
            replace hx103_0 := (HB.out.cell (World.block_lt_of_cell? w _ hx103_0)).trans hx103_0
            replace hx103_1 := (HB.out.cell (World.block_lt_of_cell? w _ hx103_1)).trans hx103_1
            replace hx103_2 := (HB.out.cell (World.block_lt_of_cell? w _ hx103_2)).trans hx103_2
            replace hx103_3 := (HB.out.cell (World.block_lt_of_cell? w _ hx103_3)).trans hx103_3
            replace p103 := eq_true p103
            replace q103 := eq_true q103
            go_wp2
            go_roundg k1
            case measure => have := HK1.out; omega
            case rel => exact ⟨(wrap64 (x3_1 + (ji5))), (wrap64 (x4_1 + 1)), (by first | rfl | (simp; done) | (simp only [← hji5] <;> (first | rfl | simp)) | (simp [*]; done)), (by first | rfl | (simp; done) | (simp [*]; done)), H', ⟨by have := HK1.out; omega⟩, ⟨by repeat (first | (with_reducible first | exact HB.out | apply below_alloc | apply pw_below_drewN | apply below_drew1) | exact HB.out)⟩⟩
          · rw [if_neg c4] at H
            exact absurd H (by simp)
        · rw [if_neg c3] at H
          have c3b0 : decide (x3_1 ≤ 4096) = false := decide_eq_false c3
          clear c3
          by_cases c6 : x3_1 > 4096
          · rw [if_pos c6] at H
            have c6b0 : decide (4096 < x3_1) = true := decide_eq_true c6
            clear c6
            obtain rfl := Option.some.inj H
            go_wp2
            go_ret
            exact ⟨by first | rfl | (simp [errW_none, errW_some] <;> rfl) | (simp [*, errW_none, errW_some] <;> rfl), by repeat (first | (with_reducible first | exact HB.out | apply below_alloc | apply pw_below_drewN | apply below_drew1) | exact HB.out)⟩
          · rw [if_neg c6] at H
            have c6b0 : decide (4096 < x3_1) = false := decide_eq_false c6
            clear c6
            obtain rfl := Option.some.inj H
            go_wp2
            go_ret
            exact ⟨by first | rfl | (simp [errW_none, errW_some] <;> rfl) | (simp [*, errW_none, errW_some] <;> rfl), by repeat (first | (with_reducible first | exact HB.out | apply below_alloc | apply pw_below_drewN | apply below_drew1) | exact HB.out)⟩
      · rw [if_neg c2] at H
        have c2b0 : decide (x4_1 < (l0.length : Int)) = false := decide_eq_false c2
        clear c2
        by_cases c7 : x3_1 > 4096
        · rw [if_pos c7] at H
          have c7b0 : decide (4096 < x3_1) = true := decide_eq_true c7
          clear c7
          obtain rfl := Option.some.inj H
          go_wp2
          go_ret
          exact ⟨by first | rfl | (simp [errW_none, errW_some] <;> rfl) | (simp [*, errW_none, errW_some] <;> rfl), by repeat (first | (with_reducible first | exact HB.out | apply below_alloc | apply pw_below_drewN | apply below_drew1) | exact HB.out)⟩
        · rw [if_neg c7] at H
          have c7b0 : decide (4096 < x3_1) = false := decide_eq_false c7
          clear c7
          obtain rfl := Option.some.inj H
          go_wp2
          go_ret
          exact ⟨by first | rfl | (simp [errW_none, errW_some] <;> rfl) | (simp [*, errW_none, errW_some] <;> rfl), by repeat (first | (with_reducible first | exact HB.out | apply below_alloc | apply pw_below_drewN | apply below_drew1) | exact HB.out)⟩

end Go.Proofs.Ytbikejfjfliamaa.PDiskLasts

-- By a program of this session (wip/tools/mkprint.py), for this claim.
import Derived.Test.YtbpblefamjmkjaaPEvictLastx0
import Derived.Test.YtbpblefamjmkjaaPEvictLastx2
import Derived.Test.YtbpblefamjmkjaaPEvictLastx3
namespace Go.Proofs.Ytbpblefamjmkjaa.PEvictLast
open Go.RowKit Go.Proofs.YtbpblefamjmkjaaW.PrintWords Go.Proofs.YtbpblefamjmkjaaW.PrintLast Go.Proofs.YtbpblefamjmkjaaW.PrintMore
attribute [local go_sem] max2_int min2_int max_two min_two max_three min_three max_four min_four   -- for this text's walks alone
set_option linter.unusedVariables false
set_option linter.unusedSimpArgs false

/-! ### evict_Victims: function 13 (by hand) -/
def Ev.inr (n : Int) : Bool := decide (0 ≤ n) && decide (n ≤ 1073741824)
theorem Ev.inr_f (n : Int) : evict_within.f n = some (Ev.inr n) := by
  unfold evict_within.f Ev.inr
  by_cases h : 0 ≤ n
  · rw [if_pos h, decide_eq_true h, Bool.true_and]
  · rw [if_neg h, decide_eq_false h, Bool.false_and]
def Ev.wild (x : S29) : Bool := !(Ev.inr x.f1)
def Ev.un : List S29 → Nat → List Ev.E
  | [], _ => []
  | x :: r, i => if x.f3 = true then Ev.un r (i + 1) else (x, (i : Int)) :: Ev.un r (i + 1)
def Ev.needs : List S29 → Int → Int
  | [], n => n
  | x :: r, n => Ev.needs r (wrap64 (n + x.f1))
def Ev.pops (room : Int) : Nat → List Ev.E → Int → List ByteArray → List ByteArray × Int
  | 0, _, need, out => if need > room then ([], 221) else (out, 0)
  | m + 1, zs, need, out => if need > room then Ev.pops room m ((Ev.down (Ev.swap zs 0 m) m 0).take m) (wrap64 (need - ((Ev.down (Ev.swap zs 0 m) m 0).getD m Ev.z).1.f1)) (out ++ [((Ev.down (Ev.swap zs 0 m) m 0).getD m Ev.z).1.f0]) else (out, 0)
def evict_Victims.f (_ : Nat) (l : List S29) (need room : Int) : Option (List ByteArray × Int) :=
  if Ev.inr need = true ∧ Ev.inr room = true ∧ l.length ≤ 4096 ∧ l.any Ev.wild = false then
    some (Ev.pops room (Ev.un l 0).length (Ev.inits (Ev.un l 0).length ((Ev.un l 0).length / 2) (Ev.un l 0)) (Ev.needs l need) [])
  else some ([], 1)
theorem evict_Victims.mono : ∀ a0 a1 a2 k, LeO (evict_Victims.f k a0 a1 a2) (evict_Victims.f (k + 1) a0 a1 a2) := fun _ _ _ _ => LeO.refl _
theorem Ev.un_len (l : List S29) : ∀ i, (Ev.un l i).length ≤ l.length := by
  induction l with
  | nil => intro i; exact Nat.le_refl _
  | cons x r ih =>
    intro i
    unfold Ev.un
    have := ih (i + 1)
    split
    · simp; omega
    · simp; omega
set_option maxHeartbeats 4000000 in
set_option maxRecDepth 100000 in
theorem Ev.closure (W : World) (x : S29) (cs : List Value) (h : k29.K W x cs) : Calls Try.prog 18 #[.agg cs.toArray] W fun e w' => e = .returned (.bool (Ev.wild x)) ∧ Below W.heap.size W w' := by
  obtain rfl := k29_open h
  have HW := Aside0.mk (Ev.inr_f x.f1)
  have HB := Aside0.mk (fun o : Obj => (Below.refl W.heap.size W).alloc (Nat.le_refl _) o)
  obtain ⟨r, hr⟩ : ∃ r, Ev.inr x.f1 = r := ⟨_, rfl⟩
  unfold Ev.wild
  rw [hr] at HW ⊢
  clear hr
  go_enter Try.func18, Try.ntmps18
  go_wp2_with (go_at_call 16; refine (evict_within.calls _ _ _ HW.out).mono ?_; rintro e w' ⟨rfl, ⟨nd, rfl⟩⟩)
  go_ret
  exact ⟨rfl, pw_below_drewN (HB.out _) _⟩
theorem Ev.J.app2x {W W' : World} {base g bx : Nat} {x : S29} {v1 v2 u1 : Value} {xs : List S29} {ys : List Int} (h : Ev.J W W' base g bx x v1 v2 u1 xs ys) {w1 : World} (hg : W'.grownBy w1 v2.ownBlock) :
    w1.cell? ⟨bx, 0, none⟩ = some (.string x.f0) ∧ w1.cell? ⟨bx, 1, none⟩ = some (.int .i64 x.f1) ∧ w1.cell? ⟨bx, 2, none⟩ = some (.int .i64 x.f2) ∧ w1.cell? ⟨bx, 3, none⟩ = some (.bool x.f3) := by
  have e := Ev.apart hg (Kd.R_typed h.r2) h.xb (by decide)
  simp [World.cell?, e]
theorem Ev.Hp.other {W w1 : World} {base g : Nat} {zs : List Ev.E} {v1 v2 vo : Value} {out : List ByteArray} {ok : Nat → Prop} (h : Ev.Hp W base g zs v1 v2) (hr : Kd.R Kd.string 9 W base ok vo out) (hg : W.grownBy w1 vo.ownBlock) : Ev.Hp w1 base g zs v1 v2 :=
  ⟨Ev.apart hg (Kd.R_typed hr) h.ob (by decide), h.hg, Kd.R_over' h.r1 (Kd.R_typed hr) (by
    intro q hq
    have hE : k29.E = [] := rfl
    rw [hE] at hq
    simp at hq
    omega) hg, Kd.R_over' h.r2 (Kd.R_typed hr) (by intro q hq; simp [Kd.int, Kd.scalar] at hq; omega) hg⟩
theorem Ev.keepOut {W w1 : World} {base b : Nat} {vo : Value} {out : List ByteArray} {ok : Nat → Prop} (hr : Kd.R Kd.string 9 W base ok vo out) (h : Ev.Bw b W w1) : Kd.R Kd.string 9 w1 base ok vo out := by
  refine Kd.R_mono (Kd.R_move (Kd.R_bound hr) ?_) (fun k hk => hk.1)
  rintro k ⟨_, _, _, q, hq, cells, hc⟩
  have e : q = 9 := by simpa [Kd.string, Kd.scalar] using hq
  subst e
  exact h.f k cells _ hc (by decide) (by decide) (by decide)
/-! ### ev_victims: function 1033 (by hand) -/
set_option maxHeartbeats 8000000 in
set_option maxRecDepth 100000 in
theorem evict_Victims.calls (k : Nat) (A0 : Option Addr) (c0 : Nat) (l0 : List (S29)) (a1 : Int) (a2 : Int) (r1 : List ByteArray) (r2 : Int) (w : World) (hr0 : Kd.C k29 w A0 l0.length l0) (hc0 : l0.length ≤ c0) (h : evict_Victims.f k l0 a1 a2 = some (r1, r2)) :
    Calls Try.prog 13 #[.slice A0 l0.length c0, .int .i64 a1, .int .i64 a2] w fun e w' => ∃ v0_ : Value, e = .returned (.tuple #[v0_, .int .i64 r2]) ∧ Kd.R Kd.string 9 w' w.heap.size (fun _ => True) v0_ r1 ∧ Below w.heap.size w w' := by
  have HCF := Aside0.mk (fun W hr => evict_Entry_17.callsP Ev.wild 18 #[] (fun _ _ => by kernel_rfl) A0 c0 l0 W hr hc0 (fun W x cs hk _ => Ev.closure W x cs hk))
  have HR0 := Aside0.mk hr0
  have HC0 := Aside0.mk hc0
  have HN := Aside0.mk (Ev.inr_f a1)
  have HR := Aside0.mk (Ev.inr_f a2)
  unfold evict_Victims.f at h
  obtain ⟨b1, hb1⟩ : ∃ b, Ev.inr a1 = b := ⟨_, rfl⟩
  obtain ⟨b2, hb2⟩ : ∃ b, Ev.inr a2 = b := ⟨_, rfl⟩
  obtain ⟨b3, hb3⟩ : ∃ b, l0.any Ev.wild = b := ⟨_, rfl⟩
  rw [hb1, hb2, hb3] at h
  rw [hb1] at HN
  rw [hb2] at HR
  rw [hb3] at HCF
  clear hr0 hc0 hb1 hb2 hb3
  by_cases hlen : l0.length ≤ 4096
  case neg =>
    rw [if_neg (fun q => hlen q.2.2.1)] at h
    simp only [Option.some.injEq, Prod.mk.injEq] at h
    obtain ⟨rfl, rfl⟩ := h
    have hl1 : decide ((4096 : Int) < (l0.length : Int)) = true := decide_eq_true (by omega)
    have hl2 : decide (4096 < l0.length) = true := decide_eq_true (by omega)
    cases b1
    all_goals try cases b2
    all_goals
      go_enter Try.func13, Try.ntmps13
      go_wp2_with (first | (go_at_call 16; (with_reducible first | refine (evict_within.calls _ _ _ HN.out).mono ?_ | refine (evict_within.calls _ _ _ HR.out).mono ?_); rintro e w' ⟨rfl, ⟨nd, rfl⟩⟩) | (go_at_call 17; (with_reducible refine (HCF.out _ (Kd.C_drewN HR0.out _)).mono ?_); rintro e w' ⟨rfl, hbc⟩; have HBC : Aside0 (Below w.heap.size w w') := ⟨(pw_below_drewN (Below.refl _ _) _).trans hbc⟩; clear hbc))
      go_ret2
      exact ⟨_, rfl, Kd.R_nil _ _ _ _ _, by first | exact Below.refl _ _ | exact pw_below_drewN (Below.refl _ _) _ | exact pw_below_drewN (pw_below_drewN (Below.refl _ _) _) _⟩
  case pos =>
    have hl1 : decide ((4096 : Int) < (l0.length : Int)) = false := decide_eq_false (by omega)
    have hl2 : decide (4096 < l0.length) = false := decide_eq_false (by omega)
    have HL := Aside0.mk hlen
    clear hlen
    by_cases hgood : b1 = true ∧ b2 = true ∧ b3 = false
    case neg =>
      rw [if_neg (fun q => hgood ⟨q.1, q.2.1, q.2.2.2⟩)] at h
      simp only [Option.some.injEq, Prod.mk.injEq] at h
      obtain ⟨rfl, rfl⟩ := h
      cases b1
      · clear hgood
        go_enter Try.func13, Try.ntmps13
        go_wp2_with (first | (go_at_call 16; (with_reducible first | refine (evict_within.calls _ _ _ HN.out).mono ?_ | refine (evict_within.calls _ _ _ HR.out).mono ?_); rintro e w' ⟨rfl, ⟨nd, rfl⟩⟩) | (go_at_call 17; (with_reducible refine (HCF.out _ (Kd.C_drewN HR0.out _)).mono ?_); rintro e w' ⟨rfl, hbc⟩; have HBC : Aside0 (Below w.heap.size w w') := ⟨(pw_below_drewN (Below.refl _ _) _).trans hbc⟩; clear hbc))
        go_ret2
        exact ⟨_, rfl, Kd.R_nil _ _ _ _ _, by first | exact Below.refl _ _ | exact pw_below_drewN (Below.refl _ _) _ | exact pw_below_drewN (pw_below_drewN (Below.refl _ _) _) _⟩
      cases b2
      · clear hgood
        go_enter Try.func13, Try.ntmps13
        go_wp2_with (first | (go_at_call 16; (with_reducible first | refine (evict_within.calls _ _ _ HN.out).mono ?_ | refine (evict_within.calls _ _ _ HR.out).mono ?_); rintro e w' ⟨rfl, ⟨nd, rfl⟩⟩) | (go_at_call 17; (with_reducible refine (HCF.out _ (Kd.C_drewN HR0.out _)).mono ?_); rintro e w' ⟨rfl, hbc⟩; have HBC : Aside0 (Below w.heap.size w w') := ⟨(pw_below_drewN (Below.refl _ _) _).trans hbc⟩; clear hbc))
        go_ret2
        exact ⟨_, rfl, Kd.R_nil _ _ _ _ _, by first | exact Below.refl _ _ | exact pw_below_drewN (Below.refl _ _) _ | exact pw_below_drewN (pw_below_drewN (Below.refl _ _) _) _⟩
      cases b3
      · exact absurd ⟨rfl, rfl, rfl⟩ hgood
      · clear hgood
        go_enter Try.func13, Try.ntmps13
        go_wp2_with (first | (go_at_call 16; (with_reducible first | refine (evict_within.calls _ _ _ HN.out).mono ?_ | refine (evict_within.calls _ _ _ HR.out).mono ?_); rintro e w' ⟨rfl, ⟨nd, rfl⟩⟩) | (go_at_call 17; (with_reducible refine (HCF.out _ (Kd.C_drewN HR0.out _)).mono ?_); rintro e w' ⟨rfl, hbc⟩; have HBC : Aside0 (Below w.heap.size w w') := ⟨(pw_below_drewN (Below.refl _ _) _).trans hbc⟩; clear hbc))
        go_ret2
        exact ⟨_, rfl, Kd.R_nil _ _ _ _ _, HBC.out⟩
    case pos =>
      obtain ⟨rfl, rfl, rfl⟩ := hgood
      rw [if_pos ⟨rfl, rfl, HL.out, rfl⟩] at h
      go_enter Try.func13, Try.ntmps13
      go_wp2_with (first | (go_at_call 16; (with_reducible first | refine (evict_within.calls _ _ _ HN.out).mono ?_ | refine (evict_within.calls _ _ _ HR.out).mono ?_); rintro e w' ⟨rfl, ⟨nd, rfl⟩⟩) | (go_at_call 17; (with_reducible refine (HCF.out _ (Kd.C_drewN HR0.out _)).mono ?_); rintro e w' ⟨rfl, hbc⟩; have HBC : Aside0 (Below w.heap.size w w') := ⟨(pw_below_drewN (Below.refl _ _) _).trans hbc⟩; clear hbc))
      have HP : Aside0 (Ev.Hp (w'.alloc (.cells #[.slice none 0 0, .slice none 0 0] 54)) w.heap.size w'.heap.size [] (.slice none 0 0) (.slice none 0 0)) := ⟨⟨Hw.blk_nw _ _, HBC.out.size, Kd.R_nil _ _ _ _ _, Kd.R_nil _ _ _ _ _⟩⟩
      have HB : Aside0 (Below w.heap.size w (w'.alloc (.cells #[.slice none 0 0, .slice none 0 0] 54))) := ⟨HBC.out.alloc HBC.out.size _⟩
      generalize (w'.alloc (.cells #[.slice none 0 0, .slice none 0 0] 54)) = W0 at HP HB ⊢
      generalize w'.heap.size = g at HP ⊢
      go_loopg [1, 34] l0.length (fun gg s1 s34 wq => ∃ (j : Nat) (nd : Int) (zs : List Ev.E) (v1 v2 : Value), s1 = .int .i64 nd ∧ s34 = .int .i64 (j : Int) ∧ j ≤ l0.length ∧ l0.length - j ≤ gg ∧ zs.length ≤ j ∧ Aside0 (Ev.needs (l0.drop j) nd = Ev.needs l0 a1) ∧ Aside0 (zs ++ Ev.un (l0.drop j) j = Ev.un l0 0) ∧ Aside0 (Ev.Hp wq w.heap.size g zs v1 v2) ∧ Aside0 (Below w.heap.size w wq))
      case atStart => exact ⟨0, a1, [], _, _, rfl, rfl, by omega, by omega, Nat.le_refl _, ⟨rfl⟩, ⟨rfl⟩, HP, HB⟩
      case round =>
        obtain ⟨j, nd, zs, v1, v2, rfl, rfl, hj, hgg, hzj, HNE, HUN, HP, HB⟩ := hrel
        by_cases hjl : j < l0.length
        · have q1 : (0 : Int) ≤ (j : Int) := by omega
          have q2 : (j : Int) < (l0.length : Int) := by omega
          obtain ⟨ad, e, i0, i1, i2, i3⟩ := at_T29 (Kd.C_below HR0.out HB.out) (j : Int) q1 q2
          subst e
          rw [Int.toNat_natCast] at i0 i1 i2 i3
          have HX : Aside0 (l0.drop j = rd_T29 l0 (j : Int) :: l0.drop (j + 1)) := ⟨by
            rw [List.drop_eq_getElem_cons hjl]
            show _ = (l0.getD (Int.toNat (j : Int)) _) :: _
            rw [Int.toNat_natCast, List.getD_eq_getElem?_getD, List.getElem?_eq_getElem hjl]
            rfl⟩
          generalize rd_T29 l0 (j : Int) = x at i0 i1 i2 i3 HX
          obtain ⟨x0, x1, x2, x3⟩ := x
          obtain ⟨gk, rfl⟩ : ∃ q, gk = q + 1 := by
            cases gk with
            | zero => omega
            | succ q => exact ⟨q, rfl⟩
          cases x3
          · go_wp2_with (fail)
            have HJ : Aside0 (Ev.J (wr.alloc (.cells #[.string x0, .int .i64 x1, .int .i64 x2, .bool false] 29)) (wr.alloc (.cells #[.string x0, .int .i64 x1, .int .i64 x2, .bool false] 29)).drew w.heap.size g wr.heap.size ⟨x0, x1, x2, false⟩ v1 v2 v1 (zs.map Prod.fst) (zs.map Prod.snd)) :=
              ⟨⟨Hw.blk_al HP.out.ob _, Hw.blk_nw _ _, Kd.R_drew (Kd.R_alloc HP.out.r1 _), Kd.R_drew (Kd.R_alloc HP.out.r2 _), Nat.le_trans HB.out.size (World.grownBy_alloc wr _ none).size, (Ev.Bw.refl _ _).drew⟩⟩
            have HBX : Aside0 (some wr.heap.size ≠ v1.ownBlock) := ⟨fun e => Nat.lt_irrefl _ (Kd.R_lt HP.out.r1 _ e.symm)⟩
            have HG := Aside0.mk HP.out.hg
            have HB5 : Aside0 (Below w.heap.size w (wr.alloc (.cells #[.string x0, .int .i64 x1, .int .i64 x2, .bool false] 29))) := ⟨HB.out.alloc HB.out.size _⟩
            clear HP HB i0 i1 i2 i3
            generalize wr.heap.size = bx at HJ HBX ⊢
            generalize (wr.alloc (.cells #[.string x0, .int .i64 x1, .int .i64 x2, .bool false] 29)) = W5 at HJ HB5 ⊢
            -- REGION 9 BEGINS
            refine start_ (n := 24) (S := fun w' => w'.cell? ⟨g, 0, none⟩ = some v1 ∧ w'.cell? ⟨g, 1, none⟩ = some v2 ∧ w'.cell? ⟨bx, 0, none⟩ = some (.string x0) ∧ w'.cell? ⟨bx, 1, none⟩ = some (.int .i64 x1) ∧ w'.cell? ⟨bx, 2, none⟩ = some (.int .i64 x2) ∧ w'.cell? ⟨bx, 3, none⟩ = some (.bool false)) (ds := [20, 23]) #[false, false, false, false, false, false, false, false, false, false, false, false, false, false, false, false, false, false, false, false, false, false, false, false] (by kernel_rfl) rfl rfl ⟨(Ev.J.s0 HJ.out), (Ev.J.s1 HJ.out), (Ev.J.s2 HJ.out), (Ev.J.s3 HJ.out), (Ev.J.s4 HJ.out), (Ev.J.s5 HJ.out)⟩ (fun hHeld => ?_)
            refine pure_ (i := 0) (N := some 46) (v := ?_) (a' := ?_) #[true, false, false, false, false, false, false, false, false, false, false, false, false, false, false, false, false, false, false, false, false, false, false, false] rfl rfl (by kernel_rfl) (fun _ _ _ h => h) (Or.inl ⟨by rfl, ?_⟩) ?_ ?_
            rotate_left
            · intro w'
              go_simp
              with_reducible rfl
            rotate_left
            · simp only [Act.put, List.setIfInBounds_toArray, List.set_cons_zero, List.set_cons_succ, i64_w, i32_w]
              rfl
            refine pure_ (i := 1) (N := some 47) (v := ?_) (a' := ?_) #[true, true, false, false, false, false, false, false, false, false, false, false, false, false, false, false, false, false, false, false, false, false, false, false] rfl rfl (by kernel_rfl) (fun _ _ _ h => h) (Or.inl ⟨by rfl, ?_⟩) ?_ ?_
            rotate_left
            · intro w'
              go_simp
              with_reducible rfl
            rotate_left
            · simp only [Act.put, List.setIfInBounds_toArray, List.set_cons_zero, List.set_cons_succ, i64_w, i32_w]
              rfl
            refine pure_ (i := 2) (N := some 48) (v := ?_) (a' := ?_) #[true, true, true, false, false, false, false, false, false, false, false, false, false, false, false, false, false, false, false, false, false, false, false, false] rfl rfl (by kernel_rfl) (fun _ _ _ h => h) (Or.inl ⟨by rfl, ?_⟩) ?_ ?_
            rotate_left
            · intro w'
              go_simp
              with_reducible rfl
            rotate_left
            · simp only [Act.put, List.setIfInBounds_toArray, List.set_cons_zero, List.set_cons_succ, i64_w, i32_w]
              rfl
            refine pure_ (i := 3) (N := some 49) (v := ?_) (a' := ?_) #[true, true, true, true, false, false, false, false, false, false, false, false, false, false, false, false, false, false, false, false, false, false, false, false] rfl rfl (by kernel_rfl) (fun _ _ _ h => h) (Or.inl ⟨by rfl, ?_⟩) ?_ ?_
            rotate_left
            · intro w'
              go_simp
              with_reducible rfl
            rotate_left
            · simp only [Act.put, List.setIfInBounds_toArray, List.set_cons_zero, List.set_cons_succ, i64_w, i32_w]
              rfl
            refine pure_ (i := 4) (N := some 50) (v := ?_) (a' := ?_) #[true, true, true, true, true, false, false, false, false, false, false, false, false, false, false, false, false, false, false, false, false, false, false, false] rfl rfl (by kernel_rfl) (fun _ _ _ h => h) (Or.inl ⟨by rfl, ?_⟩) ?_ ?_
            rotate_left
            · intro w'
              go_simp
              with_reducible rfl
            rotate_left
            · simp only [Act.put, List.setIfInBounds_toArray, List.set_cons_zero, List.set_cons_succ, i64_w, i32_w]
              rfl
            refine pure_ (i := 5) (N := some 51) (v := ?_) (a' := ?_) #[true, true, true, true, true, true, false, false, false, false, false, false, false, false, false, false, false, false, false, false, false, false, false, false] rfl rfl (by kernel_rfl) (fun _ _ _ h => h) (Or.inl ⟨by rfl, ?_⟩) ?_ ?_
            rotate_left
            · intro w'
              go_simp
              with_reducible rfl
            rotate_left
            · simp only [Act.put, List.setIfInBounds_toArray, List.set_cons_zero, List.set_cons_succ, i64_w, i32_w]
              rfl
            refine pure_ (i := 10) (N := some 56) (v := ?_) (a' := ?_) #[true, true, true, true, true, true, false, false, false, false, true, false, false, false, false, false, false, false, false, false, false, false, false, false] rfl rfl (by kernel_rfl) (fun _ _ _ h => h) (Or.inl ⟨by rfl, ?_⟩) ?_ ?_
            rotate_left
            · intro w'
              go_simp
              with_reducible rfl
            rotate_left
            · simp only [Act.put, List.setIfInBounds_toArray, List.set_cons_zero, List.set_cons_succ, i64_w, i32_w]
              rfl
            refine pure_ (i := 11) (N := some 57) (v := ?_) (a' := ?_) #[true, true, true, true, true, true, false, false, false, false, true, true, false, false, false, false, false, false, false, false, false, false, false, false] rfl rfl (by kernel_rfl) (fun _ _ _ h => h) (Or.inl ⟨by rfl, ?_⟩) ?_ ?_
            rotate_left
            · intro w'
              go_simp
              with_reducible rfl
            rotate_left
            · simp only [Act.put, List.setIfInBounds_toArray, List.set_cons_zero, List.set_cons_succ, i64_w, i32_w]
              rfl
            refine pure_ (i := 12) (N := some 58) (v := ?_) (a' := ?_) #[true, true, true, true, true, true, false, false, false, false, true, true, true, false, false, false, false, false, false, false, false, false, false, false] rfl rfl (by kernel_rfl) (fun _ _ _ h => h) (Or.inl ⟨by rfl, ?_⟩) ?_ ?_
            rotate_left
            · intro w'
              go_simp
              with_reducible rfl
            rotate_left
            · simp only [Act.put, List.setIfInBounds_toArray, List.set_cons_zero, List.set_cons_succ, i64_w, i32_w]
              rfl
            refine pure_ (i := 14) (N := some 60) (v := ?_) (a' := ?_) #[true, true, true, true, true, true, false, false, false, false, true, true, true, false, true, false, false, false, false, false, false, false, false, false] rfl rfl (by kernel_rfl) (fun _ _ _ h => h) (Or.inl ⟨by rfl, ?_⟩) ?_ ?_
            rotate_left
            · intro w'
              go_simp
              with_reducible rfl
            rotate_left
            · simp only [Act.put, List.setIfInBounds_toArray, List.set_cons_zero, List.set_cons_succ, i64_w, i32_w]
              rfl
            refine take_ (i := 6) (N := some 52) (v := ?_) (a' := ?_) #[true, true, true, true, true, true, true, false, false, false, true, true, true, false, true, false, false, false, false, false, false, false, false, false] rfl rfl (by kernel_rfl) (fun _ _ _ h => h) (Or.inl ⟨by rfl, ?_⟩) hHeld ?_ ?_
            rotate_left
            · rintro w' ⟨s0, s1, s2, s3, s4, s5⟩
              go_simp
              with_reducible rfl
            rotate_left
            · simp only [Act.put, List.setIfInBounds_toArray, List.set_cons_zero, List.set_cons_succ, i64_w, i32_w]
              rfl
            refine take_ (i := 7) (N := some 53) (v := ?_) (a' := ?_) #[true, true, true, true, true, true, true, true, false, false, true, true, true, false, true, false, false, false, false, false, false, false, false, false] rfl rfl (by kernel_rfl) (fun _ _ _ h => h) (Or.inl ⟨by rfl, ?_⟩) hHeld ?_ ?_
            rotate_left
            · rintro w' ⟨s0, s1, s2, s3, s4, s5⟩
              go_simp
              with_reducible rfl
            rotate_left
            · simp only [Act.put, List.setIfInBounds_toArray, List.set_cons_zero, List.set_cons_succ, i64_w, i32_w]
              rfl
            refine take_ (i := 13) (N := some 59) (v := ?_) (a' := ?_) #[true, true, true, true, true, true, true, true, false, false, true, true, true, true, true, false, false, false, false, false, false, false, false, false] rfl rfl (by kernel_rfl) (fun _ _ _ h => h) (Or.inl ⟨by rfl, ?_⟩) hHeld ?_ ?_
            rotate_left
            · rintro w' ⟨s0, s1, s2, s3, s4, s5⟩
              go_simp
              with_reducible rfl
            rotate_left
            · simp only [Act.put, List.setIfInBounds_toArray, List.set_cons_zero, List.set_cons_succ, i64_w, i32_w]
              rfl
            refine join_ (σ := Nat × Value × Nat) 8 #[true, true, true, true, true, true, true, true, true, true, true, true, true, true, true, true, false, false, false, false, false, false, false, false] (fun s_ => [(54, .slice (some ⟨s_.1, 0, none⟩) 1 1), (55, s_.2.1), (61, .slice (some ⟨s_.2.2, 0, none⟩) 1 1)]) (fun s_ w' => (w'.cell? ⟨g, 0, none⟩ = some v1 ∧ w'.cell? ⟨g, 1, none⟩ = some v2 ∧ w'.cell? ⟨bx, 0, none⟩ = some (.string x0) ∧ w'.cell? ⟨bx, 1, none⟩ = some (.int .i64 x1) ∧ w'.cell? ⟨bx, 2, none⟩ = some (.int .i64 x2) ∧ w'.cell? ⟨bx, 3, none⟩ = some (.bool false)) ∧ Ev.J W5 w' w.heap.size g bx ⟨x0, x1, x2, false⟩ v1 v2 s_.2.1 (zs.map Prod.fst ++ [⟨x0, x1, x2, false⟩]) (zs.map Prod.snd) ∧ w'.heap[s_.2.2]? = some (.cells #[.int .i64 (j : Int)] 3 (0, 0))) ?_ ?_
            rotate_left
            · intro hCont
              refine two_ (i := 8) (j := 15) (Ni := some 54) (Nj := some 61) #[true, true, true, true, true, true, true, true, true, false, true, true, true, true, true, false, false, false, false, false, false, false, false, false] #[true, true, true, true, true, true, true, true, false, false, true, true, true, true, true, true, false, false, false, false, false, false, false, false] rfl rfl rfl rfl (by kernel_rfl) (by decide) (by decide) (fun K hK => ?_) (fun K hK => ?_)
              · skip
                refine value_ (w1 := ?_) (v := ?_) (by rfl) rfl ?_ ?_
                rotate_left 2
                · go_simp
                  constructor
                  · rfl
                  · rfl
                have HK8 : Aside0 ((W5.drew.alloc (.cells #[.string x0, .int .i64 x1, .int .i64 x2, .bool false] 29)).heap[W5.heap.size]? = some (.cells #[.string x0, .int .i64 x1, .int .i64 x2, .bool false] 29 (0, 0))) := ⟨Hw.blk_nw W5.drew _⟩
                have HJ := Aside0.mk (Ev.J.alloc HJ.out (.cells #[.string x0, .int .i64 x1, .int .i64 x2, .bool false] 29))
                refine hK.out _ _ ⟨(Ev.J.s0 HJ.out), (Ev.J.s1 HJ.out), (Ev.J.s2 HJ.out), (Ev.J.s3 HJ.out), (Ev.J.s4 HJ.out), (Ev.J.s5 HJ.out)⟩ (fun hHeld => ?_)
                clear hK K
                refine norm_ (a' := ?_) ?_ ?_
                rotate_left
                · show Act.put _ (some 54) _ = _
                  simp only [Act.put, List.setIfInBounds_toArray, List.set_cons_zero, List.set_cons_succ, i64_w, i32_w]
                  rfl
                refine two_ (i := 9) (j := 15) (Ni := some 55) (Nj := some 61) #[true, true, true, true, true, true, true, true, true, true, true, true, true, true, true, false, false, false, false, false, false, false, false, false] #[true, true, true, true, true, true, true, true, true, false, true, true, true, true, true, true, false, false, false, false, false, false, false, false] rfl rfl rfl rfl (by kernel_rfl) (by decide) (by decide) (fun K hK => ?_) (fun K hK => ?_)
                · skip
                  refine Ev.app_step k29 w.heap.size (by rfl) (.tmp 52) (.tmp 54) 22 29 (.agg #[(.string ⟨#[]⟩), (.int .i64 0), (.int .i64 0), (.bool false)]) 40 rfl (by kernel_rfl) (by kernel_rfl) rfl (by decide) (by omega) v1 (zs.map Prod.fst) (⟨x0, x1, x2, false⟩ : S29) [.string x0, .int .i64 x1, .int .i64 x2, .bool false] W5.heap.size rfl rfl HK8.out (k29_mkM _ _ _ (⟨x0, x1, x2, false⟩ : S29)) HJ.out.r1 HJ.out.hb (by rw [List.length_map]; have := HL.out; omega) ?_
                  intro y1 w9 hr9 hg9
                  have HJ := Aside0.mk (Ev.J.app1 HJ.out HBX.out hr9 hg9)
                  clear hr9 hg9
                  refine hK.out _ _ ⟨(Ev.J.s0 HJ.out), (Ev.J.s1 HJ.out), (Ev.J.s2 HJ.out), (Ev.J.s3 HJ.out), (Ev.J.s4 HJ.out), (Ev.J.s5 HJ.out)⟩ (fun hHeld => ?_)
                  clear hK K
                  refine norm_ (a' := ?_) ?_ ?_
                  rotate_left
                  · show Act.put _ (some 55) _ = _
                    simp only [Act.put, List.setIfInBounds_toArray, List.set_cons_zero, List.set_cons_succ, i64_w, i32_w]
                    rfl
                  refine one_ (i := 15) (N := some 61) #[true, true, true, true, true, true, true, true, true, true, true, true, true, true, true, true, false, false, false, false, false, false, false, false] rfl rfl (by kernel_rfl) (by decide) (fun K hK => ?_)
                  refine value_ (w1 := ?_) (v := ?_) (by rfl) rfl ?_ ?_
                  rotate_left 2
                  · go_simp
                    constructor
                    · rfl
                    · rfl
                  have HK15 : Aside0 ((w9.alloc (.cells #[.int .i64 (j : Int)] 3)).heap[w9.heap.size]? = some (.cells #[.int .i64 (j : Int)] 3 (0, 0))) := ⟨Hw.blk_nw w9 _⟩
                  have HJ := Aside0.mk (Ev.J.alloc HJ.out (.cells #[.int .i64 (j : Int)] 3))
                  refine hK.out _ _ ⟨(Ev.J.s0 HJ.out), (Ev.J.s1 HJ.out), (Ev.J.s2 HJ.out), (Ev.J.s3 HJ.out), (Ev.J.s4 HJ.out), (Ev.J.s5 HJ.out)⟩ (fun hHeld => ?_)
                  clear hK K
                  refine norm_ (a' := ?_) ?_ ?_
                  rotate_left
                  · show Act.put _ (some 61) _ = _
                    simp only [Act.put, List.setIfInBounds_toArray, List.set_cons_zero, List.set_cons_succ, i64_w, i32_w]
                    rfl
                  exact norm_ (by simp only [putAll, Act.put, List.setIfInBounds_toArray, List.set_cons_zero, List.set_cons_succ]) (hCont (W5.heap.size, y1, w9.heap.size) _ ⟨hHeld, HJ.out, HK15.out⟩)
                · skip
                  refine value_ (w1 := ?_) (v := ?_) (by rfl) rfl ?_ ?_
                  rotate_left 2
                  · go_simp
                    constructor
                    · rfl
                    · rfl
                  have HK15 : Aside0 (((W5.drew.alloc (.cells #[.string x0, .int .i64 x1, .int .i64 x2, .bool false] 29)).alloc (.cells #[.int .i64 (j : Int)] 3)).heap[W5.heap.size + 1]? = some (.cells #[.int .i64 (j : Int)] 3 (0, 0))) := ⟨Hw.blk_nw1 W5.drew _ _⟩
                  have HK8 := Aside0.mk (Hw.blk_al HK8.out (.cells #[.int .i64 (j : Int)] 3))
                  have HJ := Aside0.mk (Ev.J.alloc HJ.out (.cells #[.int .i64 (j : Int)] 3))
                  refine hK.out _ _ ⟨(Ev.J.s0 HJ.out), (Ev.J.s1 HJ.out), (Ev.J.s2 HJ.out), (Ev.J.s3 HJ.out), (Ev.J.s4 HJ.out), (Ev.J.s5 HJ.out)⟩ (fun hHeld => ?_)
                  clear hK K
                  refine norm_ (a' := ?_) ?_ ?_
                  rotate_left
                  · show Act.put _ (some 61) _ = _
                    simp only [Act.put, List.setIfInBounds_toArray, List.set_cons_zero, List.set_cons_succ, i64_w, i32_w]
                    rfl
                  refine one_ (i := 9) (N := some 55) #[true, true, true, true, true, true, true, true, true, true, true, true, true, true, true, true, false, false, false, false, false, false, false, false] rfl rfl (by kernel_rfl) (by decide) (fun K hK => ?_)
                  refine Ev.app_step k29 w.heap.size (by rfl) (.tmp 52) (.tmp 54) 22 29 (.agg #[(.string ⟨#[]⟩), (.int .i64 0), (.int .i64 0), (.bool false)]) 40 rfl (by kernel_rfl) (by kernel_rfl) rfl (by decide) (by omega) v1 (zs.map Prod.fst) (⟨x0, x1, x2, false⟩ : S29) [.string x0, .int .i64 x1, .int .i64 x2, .bool false] W5.heap.size rfl rfl HK8.out (k29_mkM _ _ _ (⟨x0, x1, x2, false⟩ : S29)) HJ.out.r1 HJ.out.hb (by rw [List.length_map]; have := HL.out; omega) ?_
                  intro y1 w9 hr9 hg9
                  have HK15 := Aside0.mk (Ev.apart hg9 (Kd.R_typed HJ.out.r1) HK15.out (by decide))
                  have HJ := Aside0.mk (Ev.J.app1 HJ.out HBX.out hr9 hg9)
                  clear hr9 hg9
                  refine hK.out _ _ ⟨(Ev.J.s0 HJ.out), (Ev.J.s1 HJ.out), (Ev.J.s2 HJ.out), (Ev.J.s3 HJ.out), (Ev.J.s4 HJ.out), (Ev.J.s5 HJ.out)⟩ (fun hHeld => ?_)
                  clear hK K
                  refine norm_ (a' := ?_) ?_ ?_
                  rotate_left
                  · show Act.put _ (some 55) _ = _
                    simp only [Act.put, List.setIfInBounds_toArray, List.set_cons_zero, List.set_cons_succ, i64_w, i32_w]
                    rfl
                  exact norm_ (by simp only [putAll, Act.put, List.setIfInBounds_toArray, List.set_cons_zero, List.set_cons_succ]) (hCont (W5.heap.size, y1, (W5.heap.size + 1)) _ ⟨hHeld, HJ.out, HK15.out⟩)
              · skip
                refine value_ (w1 := ?_) (v := ?_) (by rfl) rfl ?_ ?_
                rotate_left 2
                · go_simp
                  constructor
                  · rfl
                  · rfl
                have HK15 : Aside0 ((W5.drew.alloc (.cells #[.int .i64 (j : Int)] 3)).heap[W5.heap.size]? = some (.cells #[.int .i64 (j : Int)] 3 (0, 0))) := ⟨Hw.blk_nw W5.drew _⟩
                have HJ := Aside0.mk (Ev.J.alloc HJ.out (.cells #[.int .i64 (j : Int)] 3))
                refine hK.out _ _ ⟨(Ev.J.s0 HJ.out), (Ev.J.s1 HJ.out), (Ev.J.s2 HJ.out), (Ev.J.s3 HJ.out), (Ev.J.s4 HJ.out), (Ev.J.s5 HJ.out)⟩ (fun hHeld => ?_)
                clear hK K
                refine norm_ (a' := ?_) ?_ ?_
                rotate_left
                · show Act.put _ (some 61) _ = _
                  simp only [Act.put, List.setIfInBounds_toArray, List.set_cons_zero, List.set_cons_succ, i64_w, i32_w]
                  rfl
                refine one_ (i := 8) (N := some 54) #[true, true, true, true, true, true, true, true, true, false, true, true, true, true, true, true, false, false, false, false, false, false, false, false] rfl rfl (by kernel_rfl) (by decide) (fun K hK => ?_)
                refine value_ (w1 := ?_) (v := ?_) (by rfl) rfl ?_ ?_
                rotate_left 2
                · go_simp
                  constructor
                  · rfl
                  · rfl
                have HK8 : Aside0 (((W5.drew.alloc (.cells #[.int .i64 (j : Int)] 3)).alloc (.cells #[.string x0, .int .i64 x1, .int .i64 x2, .bool false] 29)).heap[W5.heap.size + 1]? = some (.cells #[.string x0, .int .i64 x1, .int .i64 x2, .bool false] 29 (0, 0))) := ⟨Hw.blk_nw1 W5.drew _ _⟩
                have HK15 := Aside0.mk (Hw.blk_al HK15.out (.cells #[.string x0, .int .i64 x1, .int .i64 x2, .bool false] 29))
                have HJ := Aside0.mk (Ev.J.alloc HJ.out (.cells #[.string x0, .int .i64 x1, .int .i64 x2, .bool false] 29))
                refine hK.out _ _ ⟨(Ev.J.s0 HJ.out), (Ev.J.s1 HJ.out), (Ev.J.s2 HJ.out), (Ev.J.s3 HJ.out), (Ev.J.s4 HJ.out), (Ev.J.s5 HJ.out)⟩ (fun hHeld => ?_)
                clear hK K
                refine norm_ (a' := ?_) ?_ ?_
                rotate_left
                · show Act.put _ (some 54) _ = _
                  simp only [Act.put, List.setIfInBounds_toArray, List.set_cons_zero, List.set_cons_succ, i64_w, i32_w]
                  rfl
                refine one_ (i := 9) (N := some 55) #[true, true, true, true, true, true, true, true, true, true, true, true, true, true, true, true, false, false, false, false, false, false, false, false] rfl rfl (by kernel_rfl) (by decide) (fun K hK => ?_)
                refine Ev.app_step k29 w.heap.size (by rfl) (.tmp 52) (.tmp 54) 22 29 (.agg #[(.string ⟨#[]⟩), (.int .i64 0), (.int .i64 0), (.bool false)]) 40 rfl (by kernel_rfl) (by kernel_rfl) rfl (by decide) (by omega) v1 (zs.map Prod.fst) (⟨x0, x1, x2, false⟩ : S29) [.string x0, .int .i64 x1, .int .i64 x2, .bool false] (W5.heap.size + 1) rfl rfl HK8.out (k29_mkM _ _ _ (⟨x0, x1, x2, false⟩ : S29)) HJ.out.r1 HJ.out.hb (by rw [List.length_map]; have := HL.out; omega) ?_
                intro y1 w9 hr9 hg9
                have HK15 := Aside0.mk (Ev.apart hg9 (Kd.R_typed HJ.out.r1) HK15.out (by decide))
                have HJ := Aside0.mk (Ev.J.app1 HJ.out HBX.out hr9 hg9)
                clear hr9 hg9
                refine hK.out _ _ ⟨(Ev.J.s0 HJ.out), (Ev.J.s1 HJ.out), (Ev.J.s2 HJ.out), (Ev.J.s3 HJ.out), (Ev.J.s4 HJ.out), (Ev.J.s5 HJ.out)⟩ (fun hHeld => ?_)
                clear hK K
                refine norm_ (a' := ?_) ?_ ?_
                rotate_left
                · show Act.put _ (some 55) _ = _
                  simp only [Act.put, List.setIfInBounds_toArray, List.set_cons_zero, List.set_cons_succ, i64_w, i32_w]
                  rfl
                exact norm_ (by simp only [putAll, Act.put, List.setIfInBounds_toArray, List.set_cons_zero, List.set_cons_succ]) (hCont ((W5.heap.size + 1), y1, W5.heap.size) _ ⟨hHeld, HJ.out, HK15.out⟩)
            rintro ⟨b8, y1, b15⟩ w6 ⟨hS_, hJ_, hK_⟩
            clear HJ
            have HJ := Aside0.mk hJ_
            have HK15 := Aside0.mk hK_
            clear hJ_ hK_
            obtain ⟨Ay, cy, ey⟩ := Kd.R_slice HJ.out.r1
            subst ey
            have hHeld : w6.cell? ⟨g, 0, none⟩ = some v1 ∧ w6.cell? ⟨g, 1, none⟩ = some v2 ∧ w6.cell? ⟨bx, 0, none⟩ = some (.string x0) ∧ w6.cell? ⟨bx, 1, none⟩ = some (.int .i64 x1) ∧ w6.cell? ⟨bx, 2, none⟩ = some (.int .i64 x2) ∧ w6.cell? ⟨bx, 3, none⟩ = some (.bool false) := hS_
            refine norm_ (a' := ?_) ?_ ?_
            rotate_left
            · simp only [putAll, Act.put, List.setIfInBounds_toArray, List.set_cons_zero, List.set_cons_succ]
              rfl
            refine one_ (i := 16) (N := some 62) #[true, true, true, true, true, true, true, true, true, true, true, true, true, true, true, true, true, false, false, false, false, false, false, false] rfl rfl (by kernel_rfl) (by decide) (fun K hK => ?_)
            refine Ev.app_step (Kd.int .i64) w.heap.size (by rfl) (.tmp 59) (.tmp 61) 52 3 (.int .i64 0) 8 rfl (by kernel_rfl) (by kernel_rfl) rfl (by decide) (by omega) v2 (zs.map Prod.snd) (j : Int) [.int .i64 (j : Int)] b15 rfl rfl HK15.out rfl HJ.out.r2 HJ.out.hb (by rw [List.length_map]; have := HL.out; omega) ?_
            intro y2 w7 hr7 hg7
            obtain ⟨Az, cz, ez⟩ := Kd.R_slice hr7
            subst ez
            have HF := Aside0.mk (Ev.J.app2 (zs := zs) HJ.out HG.out hr7 hg7)
            have hob := Ev.J.ob2 HJ.out hg7
            have hs0 : w7.cell? ⟨g, 0, none⟩ = some v1 := by simp [World.cell?, hob]
            have hs1 : w7.cell? ⟨g, 1, none⟩ = some v2 := by simp [World.cell?, hob]
            have hfz0 : w7.frozen? ⟨g, 0, none⟩ = false := by simp [World.frozen?, hob]
            have hfz1 : w7.frozen? ⟨g, 1, none⟩ = false := by simp [World.frozen?, hob]
            have hxb := Ev.J.app2x HJ.out hg7
            clear hr7 hg7 hob
            refine hK.out _ _ ⟨hs0, hs1, (hxb.1), (hxb.2.1), (hxb.2.2.1), (hxb.2.2.2)⟩ (fun hHeld => ?_)
            clear hK K
            refine norm_ (a' := ?_) ?_ ?_
            rotate_left
            · show Act.put _ (some 62) _ = _
              simp only [Act.put, List.setIfInBounds_toArray, List.set_cons_zero, List.set_cons_succ, i64_w, i32_w]
              rfl
            refine pure_ (i := 17) (N := some 63) (v := ?_) (a' := ?_) #[true, true, true, true, true, true, true, true, true, true, true, true, true, true, true, true, true, true, false, false, false, false, false, false] rfl rfl (by kernel_rfl) (fun _ _ _ h => h) (Or.inl ⟨by rfl, ?_⟩) ?_ ?_
            rotate_left
            · intro w'
              go_simp
              with_reducible rfl
            rotate_left
            · simp only [Act.put, List.setIfInBounds_toArray, List.set_cons_zero, List.set_cons_succ, i64_w, i32_w]
              rfl
            refine pure_ (i := 18) (N := some 64) (v := ?_) (a' := ?_) #[true, true, true, true, true, true, true, true, true, true, true, true, true, true, true, true, true, true, true, false, false, false, false, false] rfl rfl (by kernel_rfl) (fun _ _ _ h => h) (Or.inl ⟨by rfl, ?_⟩) ?_ ?_
            rotate_left
            · intro w'
              go_simp
              with_reducible rfl
            rotate_left
            · simp only [Act.put, List.setIfInBounds_toArray, List.set_cons_zero, List.set_cons_succ, i64_w, i32_w]
              rfl
            refine pure_ (i := 19) (N := some 65) (v := ?_) (a' := ?_) #[true, true, true, true, true, true, true, true, true, true, true, true, true, true, true, true, true, true, true, true, false, false, false, false] rfl rfl (by kernel_rfl) (fun _ _ _ h => h) (Or.inl ⟨by rfl, ?_⟩) ?_ ?_
            rotate_left
            · intro w'
              go_simp
              with_reducible rfl
            rotate_left
            · simp only [Act.put, List.setIfInBounds_toArray, List.set_cons_zero, List.set_cons_succ, i64_w, i32_w]
              rfl
            refine last_ (i := 20) (N := none) #[true, true, true, true, true, true, true, true, true, true, true, true, true, true, true, true, true, true, true, true, true, false, false, false] rfl rfl (by kernel_rfl) (by decide) (fun K hK => ?_)
            refine skip_ (w1 := ?_) (by rfl) rfl ?_ ?_
            rotate_left
            · go_simp
              rfl
            refine hK.out _ _ ?_
            clear hK K
            refine pure_ (i := 21) (N := some 66) (v := ?_) (a' := ?_) #[true, true, true, true, true, true, true, true, true, true, true, true, true, true, true, true, true, true, true, true, true, true, false, false] rfl rfl (by kernel_rfl) (fun _ _ _ h => h) (Or.inl ⟨by rfl, ?_⟩) ?_ ?_
            rotate_left
            · intro w'
              go_simp
              with_reducible rfl
            rotate_left
            · simp only [Act.put, List.setIfInBounds_toArray, List.set_cons_zero, List.set_cons_succ, i64_w, i32_w]
              rfl
            refine pure_ (i := 22) (N := some 67) (v := ?_) (a' := ?_) #[true, true, true, true, true, true, true, true, true, true, true, true, true, true, true, true, true, true, true, true, true, true, true, false] rfl rfl (by kernel_rfl) (fun _ _ _ h => h) (Or.inl ⟨by rfl, ?_⟩) ?_ ?_
            rotate_left
            · intro w'
              go_simp
              with_reducible rfl
            rotate_left
            · simp only [Act.put, List.setIfInBounds_toArray, List.set_cons_zero, List.set_cons_succ, i64_w, i32_w]
              rfl
            refine last_ (i := 23) (N := none) #[true, true, true, true, true, true, true, true, true, true, true, true, true, true, true, true, true, true, true, true, true, true, true, true] rfl rfl (by kernel_rfl) (by decide) (fun K hK => ?_)
            refine skip_ (w1 := ?_) (by rfl) rfl ?_ ?_
            rotate_left
            · go_simp
              rfl
            refine hK.out _ _ ?_
            clear hK K
            refine done_ (by kernel_rfl) ?_
            -- REGION 9 ENDS
            go_wp2_with (fail)
            go_roundg gk
            case measure => omega
            case rel =>
              have hf := HF.out
              simp only [List.length_append, List.length_map, List.length_cons, List.length_nil, Nat.zero_add] at hf
              exact ⟨j + 1, _, zs ++ [(⟨x0, x1, x2, false⟩, (j : Int))], _, _, rfl, by rw [Hw.wnat j (by have := HL.out; omega)], by omega, by omega, by rw [List.length_append]; exact Nat.add_le_add_right hzj 1, ⟨by have e := HNE.out; rw [HX.out] at e; exact e⟩, ⟨by have e := HUN.out; rw [HX.out] at e; rw [List.append_assoc]; exact e⟩, ⟨hf.1⟩, ⟨HB5.out.trans hf.2.b⟩⟩
          · go_wp2_with (fail)
            go_roundg gk
            case measure => omega
            case rel => exact ⟨j + 1, _, zs, v1, v2, rfl, by rw [Hw.wnat j (by have := HL.out; omega)], by omega, by omega, by omega, ⟨by have e := HNE.out; rw [HX.out] at e; exact e⟩, ⟨by have e := HUN.out; rw [HX.out] at e; exact e⟩, ⟨HP.out.below ((Below.refl _ _).alloc (Nat.le_refl _) _)⟩, ⟨HB.out.alloc HB.out.size _⟩⟩
        · have hd : l0.drop j = [] := List.drop_eq_nil_of_le (by omega)
          rw [hd] at HNE HUN
          have e1 : nd = Ev.needs l0 a1 := HNE.out
          have e2 : zs = Ev.un l0 0 := by have e := HUN.out; rw [show Ev.un [] j = [] from rfl, List.append_nil] at e; exact e
          have hz1 : zs.length ≤ 1000000 := by have := HL.out; omega
          have HZ := Aside0.mk (show zs.length ≤ 4096 by have := HL.out; omega)
          rw [← e1, ← e2] at h
          clear e1 e2 hd HNE HUN
          go_wp2_with (go_at_call 19; (with_reducible refine (Ev.initC zs _ g v1 v2 _ HP.out hz1 HB.out.size).mono ?_); rintro e w3 ⟨rfl, hp3, hb3⟩; have HP := Aside0.mk hp3; have HB := Aside0.mk (HB.out.trans hb3.b); clear hp3 hb3)
          have HF := Aside0.mk (Option.some.inj h)
          clear h
          go_loopg [1, 11] zs.length (fun gg s1 s11 wq => ∃ (m : Nat) (ys : List Ev.E) (nd : Int) (out : List ByteArray) (v1 v2 : Value), s1 = .int .i64 nd ∧ ys.length = m ∧ m ≤ gg ∧ out.length + m ≤ 4096 ∧ Aside0 (Ev.pops a2 m ys nd out = (r1, r2)) ∧ Aside0 (Ev.Hp wq w.heap.size g ys v1 v2) ∧ Aside0 (Kd.R Kd.string 9 wq w.heap.size (fun _ => True) s11 out) ∧ Aside0 (Below w.heap.size w wq))
          case atStart => exact ⟨zs.length, _, nd, [], _, _, rfl, Ev.inits_len _ _ _, Nat.le_refl _, by rw [List.length_nil, Nat.zero_add]; exact HZ.out, HF, HP, ⟨Kd.R_nil _ _ _ _ _⟩, HB⟩
          case round =>
            obtain ⟨m, ys, nd, out, v1, v2, rfl, hyl, hm, hom, HF, HP, HO, HB⟩ := hrel
            by_cases hc : nd > a2
            · have hc1 : a2 < nd := hc
              obtain ⟨A1, c1, e1⟩ := Kd.R_slice HP.out.r1
              subst e1
              rw [List.length_map] at HP
              have hc0 := HP.out.c0
              have HM := Aside0.mk (Ev.len v2 ys.length c1 A1 wr)
              cases m with
              | zero =>
                have hf := HF.out
                rw [Ev.pops, if_pos hc] at hf
                simp only [Prod.mk.injEq] at hf
                obtain ⟨rfl, rfl⟩ := hf
                rw [hyl] at hc0 HM HP
                go_wp2_with (go_at_call 20; (with_reducible refine HM.out.mono ?_); rintro e w3 ⟨rfl, hb3⟩; have HB := Aside0.mk (HB.out.trans (hb3.mono HB.out.size)); clear hb3)
                go_ret2
                exact ⟨_, rfl, Kd.R_nil _ _ _ _ _, HB.out⟩
              | succ m =>
                obtain ⟨gk, rfl⟩ : ∃ q, gk = q + 1 := by
                  cases gk with
                  | zero => omega
                  | succ q => exact ⟨q, rfl⟩
                obtain ⟨xs, hxs⟩ : ∃ xs, Ev.down (Ev.swap ys 0 m) m 0 = xs := ⟨_, rfl⟩
                have hxl : xs.length = m + 1 := by rw [← hxs, Ev.down_len, Ev.swap_len, hyl]
                have HQ := Aside0.mk (fun W hp hb => Ev.hpopC ys m w.heap.size g (.slice A1 ys.length c1) v2 W hp hyl (by omega) hb xs hxs)
                have hf := HF.out
                rw [Ev.pops, if_pos hc, hxs] at hf
                obtain ⟨X, hX⟩ : ∃ X, X = xs.getD m Ev.z := ⟨_, rfl⟩
                rw [← hX] at hf HQ
                have HF := Aside0.mk hf
                clear hf hX hxs
                rw [hyl] at hc0 HM HP HQ
                have hne : ¬ ((m + 1 : Nat) : Int) = 0 := by omega
                have hta : ∀ W : World, (Instr.typeAssert (.iface 29 (.agg #[.string X.1.f0, .int .i64 X.1.f1, .int .i64 X.1.f2, .bool X.1.f3])) 20 29 false).run Try.prog W = .ok (.agg #[.string X.1.f0, .int .i64 X.1.f1, .int .i64 X.1.f2, .bool X.1.f3]) W := fun _ => by kernel_rfl
                go_wp2_with (first
                  | (go_at_call 20; (with_reducible refine HM.out.mono ?_); rintro e w3 ⟨rfl, hb3⟩; have HP := Aside0.mk (HP.out.below hb3); have HO := Aside0.mk (Kd.R_below HO.out hb3); have HB := Aside0.mk (HB.out.trans (hb3.mono HB.out.size)); clear hb3)
                  | (go_at_call 21; (with_reducible refine (HQ.out _ HP.out HB.out.size).mono ?_); rintro e w4 ⟨u1, u2, rfl, hp3, hb3⟩; have HP := Aside0.mk hp3; have HO := Aside0.mk (Ev.keepOut HO.out hb3); have HB := Aside0.mk (HB.out.trans hb3.b); clear hp3 hb3)
                  | ((with_reducible refine gate_builtin (b := .append) (xs := #[.tmp 89, .tmp 92]) rfl ?_); (try (refine gate_guard (by rfl) ?_; dsimp only)); at_builtin; rw [show w4.heap.size + 1 = (w4.alloc (.cells #[.string X.1.f0, .int .i64 X.1.f1, .int .i64 X.1.f2, .bool X.1.f3] 29)).heap.size by simp]; refine Kd.R_append Kd.string (w0 := w) w.heap.size rfl (.tmp 89) (.tmp 92) 35 9 (.string ⟨#[]⟩) 16 rfl (by kernel_rfl) (by kernel_rfl) rfl (by decide) (by decide) u11 out X.1.f0 [.string X.1.f0] (fun _ => True) (fun _ => False) rfl rfl ?aP (fun _ hk => hk.elim) ?aF ?aO ?aB ?aS ?aL ?_; (case aP => exact rfl); (case aF => exact (fun _ _ => trivial)); (case aO => exact Kd.R_alloc HO.out _); (case aB => exact HB.out.alloc HB.out.size _); (case aS => exact Nat.le_trans HB.out.size (World.grownBy_alloc _ _ none).size); (case aL => omega); intro vo1 w8 ho8 hb8 hg8 ha8; have HP := Aside0.mk (Ev.Hp.other (HP.out.below ((Below.refl _ _).alloc (Nat.le_refl _) (.cells #[.string X.1.f0, .int .i64 X.1.f1, .int .i64 X.1.f2, .bool X.1.f3] 29))) (Kd.R_alloc HO.out (.cells #[.string X.1.f0, .int .i64 X.1.f1, .int .i64 X.1.f2, .bool X.1.f3] 29)) hg8); have HO := Aside0.mk ho8; have HB := Aside0.mk hb8; clear ho8 hb8 hg8 ha8))
                go_roundg gk
                case measure => omega
                case rel => exact ⟨m, xs.take m, _, out ++ [X.1.f0], _, _, rfl, by rw [List.length_take]; omega, by omega, by rw [List.length_append]; simp only [List.length_cons, List.length_nil]; omega, HF, HP, HO, HB⟩
            · have hf := HF.out
              have hc1 : ¬ a2 < nd := hc
              have hf2 : (out, (0 : Int)) = (r1, r2) := by
                rw [← hf]
                cases m with
                | zero => rw [Ev.pops, if_neg hc]
                | succ m => rw [Ev.pops, if_neg hc]
              simp only [Prod.mk.injEq] at hf2
              obtain ⟨rfl, rfl⟩ := hf2
              go_wp2_with (fail)
              go_ret2
              exact ⟨_, rfl, HO.out, HB.out⟩

/-! ### cubbyref20_in: function 22 -/
def cubbyref20_in.f (a0 : Int) : Option (Bool) := if a0 ≥ 0 then (some (decide (a0 ≤ 1073741824))) else (some false)
set_option maxHeartbeats 8000000 in
set_option maxRecDepth 100000 in
theorem cubbyref20_in.calls (a0 : Int) (r : Bool) (w : World) (h : cubbyref20_in.f a0 = some r) :
    Calls Try.prog 22 #[.int .i64 a0] w fun e w' => e = .returned (.bool r) ∧ Drawn0 w w' := by
  have H : (if a0 ≥ 0 then (some (decide (a0 ≤ 1073741824))) else (some false)) = some r := h
  clear h
  by_cases c2 : a0 ≥ 0
  · rw [if_pos c2] at H
    have c2b0 : decide (0 ≤ a0) = true := decide_eq_true c2
    clear c2
    obtain rfl := Option.some.inj H
    go_enter Try.func22, Try.ntmps22
    go_wp2
    go_ret
    exact ⟨by first | rfl | (simp; done) | (simp [*]; done), by repeat (first | exact Drawn0.refl _ | apply Drawn0.step)⟩
  · rw [if_neg c2] at H
    have c2b0 : decide (0 ≤ a0) = false := decide_eq_false c2
    clear c2
    obtain rfl := Option.some.inj H
    go_enter Try.func22, Try.ntmps22
    go_wp2
    go_ret
    exact ⟨by first | rfl | (simp; done) | (simp [*]; done), by repeat (first | exact Drawn0.refl _ | apply Drawn0.step)⟩

/-! ### cubbyref20_sum: function 23 -/
def cubbyref20_sum.l0 : Nat → List (S30) → Int → Int → Option (Int)
  | 0, _, _, _ => none
  | k + 1, x0, x3, x4 => if x4 < (x0.length : Int) then (if 0 ≤ x4 then (cubbyref20_sum.l0 k x0 (wrap64 (x3 + ((rd_T30 x0 x4).f1))) (wrap64 (x4 + 1))) else (none)) else (some x3)
def cubbyref20_sum.f (k : Nat) (l0 : List (S30)) : Option (Int) := cubbyref20_sum.l0 k l0 0 0
theorem cubbyref20_sum.mono_l : ∀ k, (∀ y0 y1 y2, LeO (cubbyref20_sum.l0 k y0 y1 y2) (cubbyref20_sum.l0 (k + 1) y0 y1 y2))
  | 0 => fun _ _ _ r h => by simp [cubbyref20_sum.l0] at h
  | k + 1 => by
    have ih0 := cubbyref20_sum.mono_l k
    · intro y0 y1 y2
      unfold cubbyref20_sum.l0
      repeat' first
      | (with_reducible exact ih0 _ _ _)
      | (with_reducible exact LeO.refl _)
      | (with_reducible exact LeO.none _)
      | (with_reducible refine LeO.ite ?_ ?_)
      | (with_reducible refine LeO.bind ?_ (fun _ => ?_))
      | exact ih0 _ _ _
      | exact LeO.none _
      | refine LeO.ite ?_ ?_
      | refine LeO.bind ?_ (fun _ => ?_)
theorem cubbyref20_sum.mono : ∀ a0 k, LeO (cubbyref20_sum.f k a0) (cubbyref20_sum.f (k + 1) a0) := by
  intro a0 k
  have ih0 := cubbyref20_sum.mono_l k
  unfold cubbyref20_sum.f
  repeat' first
      | (with_reducible exact ih0 _ _ _)
      | (with_reducible exact LeO.refl _)
      | (with_reducible exact LeO.none _)
      | (with_reducible refine LeO.ite ?_ ?_)
      | (with_reducible refine LeO.bind ?_ (fun _ => ?_))
      | exact ih0 _ _ _
      | exact LeO.none _
      | refine LeO.ite ?_ ?_
      | refine LeO.bind ?_ (fun _ => ?_)
set_option maxHeartbeats 8000000 in
set_option maxRecDepth 100000 in
theorem cubbyref20_sum.calls (k : Nat) (A0 : Option Addr) (c0 : Nat) (l0 : List (S30)) (r : Int) (w : World) (hr0 : Kd.C k30 w A0 l0.length l0) (hc0 : l0.length ≤ c0) (h : cubbyref20_sum.f k l0 = some r) :
    Calls Try.prog 23 #[.slice A0 l0.length c0] w fun e w' => e = .returned (.int .i64 r) ∧ Drawn0 w w' := by
  have HR0 := Aside0.mk hr0
  have HC0 := Aside0.mk hc0
  clear hr0 hc0
  have H : (cubbyref20_sum.l0 k l0 0 0) = some r := h
  clear h
  have H' := Aside0.mk H
  clear H
  go_enter Try.func23, Try.ntmps23
  go_wp2
  go_loopg [3, 4] k (fun kq v3 v4 w' => ∃ (x3_1 : Int) (x4_1 : Int), v3 = .int .i64 x3_1 ∧ v4 = .int .i64 x4_1 ∧ Aside0 (cubbyref20_sum.l0 kq l0 x3_1 x4_1 = some r) ∧ Aside0 (kq ≤ k) ∧ Drawn0 w w')
  case atStart => exact ⟨(0), (0), (by first | rfl | (simp; done) | (simp [*]; done)), (by first | rfl | (simp; done) | (simp [*]; done)), H', ⟨Nat.le_refl _⟩, by repeat (first | exact Drawn0.refl _ | apply Drawn0.step)⟩
  case round =>
    clear H'
    obtain ⟨x3_1, x4_1, rfl, rfl, HA, HK1, ⟨m1, rfl⟩⟩ := hrel
    cases gk with
    | zero => exact absurd HA.out (by simp [cubbyref20_sum.l0])
    | succ k1 =>
      have H := HA.out
      clear HA
      simp only [cubbyref20_sum.l0] at H
      by_cases c2 : x4_1 < (l0.length : Int)
      · rw [if_pos c2] at H
        have c2b0 : decide (x4_1 < (l0.length : Int)) = true := decide_eq_true c2
        clear c2
        by_cases c3 : 0 ≤ x4_1
        · rw [if_pos c3] at H
          have c3b0 : decide (0 ≤ x4_1) = true := decide_eq_true c3
          clear c3
          have H' := Aside0.mk H
          clear H
          have p130 : 0 ≤ (x4_1 : Int) := of_decide_eq_true (by first | (with_reducible assumption) | assumption)
          have q130 : x4_1 < (l0.length : Int) := of_decide_eq_true (by first | (with_reducible assumption) | assumption)
          obtain ⟨ad130, e130, hx130_0, hx130_1, hx130_2, hx130_3⟩ := at_T30 HR0.out x4_1 p130 q130
          cases e130
          replace p130 := eq_true p130
          replace q130 := eq_true q130
          go_wp2
          go_roundg k1
          case measure => have := HK1.out; omega
          case rel => exact ⟨(wrap64 (x3_1 + ((rd_T30 l0 x4_1).f1))), (wrap64 (x4_1 + 1)), (by first | rfl | (simp; done) | (simp [*]; done)), (by first | rfl | (simp; done) | (simp [*]; done)), H', ⟨by have := HK1.out; omega⟩, by repeat (first | exact Drawn0.refl _ | apply Drawn0.step)⟩
        · rw [if_neg c3] at H
          exact absurd H (by simp)
      · rw [if_neg c2] at H
        have c2b0 : decide (x4_1 < (l0.length : Int)) = false := decide_eq_false c2
        clear c2
        obtain rfl := Option.some.inj H
        go_wp2
        go_ret
        exact ⟨by first | rfl | (simp; done) | (simp [*]; done), by repeat (first | exact Drawn0.refl _ | apply Drawn0.step)⟩

end Go.Proofs.Ytbpblefamjmkjaa.PEvictLast

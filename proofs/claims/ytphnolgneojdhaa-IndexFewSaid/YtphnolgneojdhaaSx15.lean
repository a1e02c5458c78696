-- printed by a program of this session (a changed copy of the kit's printer)
import Derived.Test.YtphnolgneojdhaaSx0
import Derived.Test.YtphnolgneojdhaaSx7
import Derived.Test.YtphnolgneojdhaaSx8
import Derived.Test.YtphnolgneojdhaaSx10
namespace Go.Proofs.Ytphnolgneojdhaa.S
open Go.RowKit Go.Proofs.YtphnolgneojdhaaW.PrintWords Go.Proofs.YtphnolgneojdhaaW.PrintLast Go.Proofs.YtphnolgneojdhaaW.PrintMore
attribute [local go_sem] max2_int min2_int max_two min_two max_three min_three max_four min_four   -- for this text's walks alone
set_option linter.unusedVariables false
set_option linter.unusedSimpArgs false

/-! ### cooperagelaw9_IndexFew: function 4 -/
mutual
def cooperagelaw9_IndexFew.j0 : Nat → List (S34) → Int → Bool → Bool → Option (Bool)
  | 0, _, _, _, _ => none
  | k + 1, x0, x1, x5, x27 => if x27 = true then (some x5) else (cooperagelaw9_IndexFew.l0 k x0 x1 ([] : List (S34)) 0)
def cooperagelaw9_IndexFew.l0 : Nat → List (S34) → Int → List (S34) → Int → Option (Bool)
  | 0, _, _, _, _ => none
  | k + 1, x0, x1, x7, x8 => if x8 < (x0.length : Int) then (if 0 ≤ x8 then ((cooperageref1_Right.f x8 ((rd_T34 x0 x8).f1) ((rd_T34 x0 x8).f2) ((rd_T34 x0 x8).f3) ((rd_T34 x0 x8).f4)).bind fun t327 => (if t327 = true then (if x7.length < 2513169434916 then (cooperagelaw9_IndexFew.l0 k x0 x1 (x7 ++ [(⟨x8, (rd_T34 x0 x8).f1, (rd_T34 x0 x8).f2, (rd_T34 x0 x8).f3, (rd_T34 x0 x8).f4⟩ : S34)]) (wrap64 (x8 + 1))) else (none)) else (cooperagelaw9_IndexFew.l0 k x0 x1 x7 (wrap64 (x8 + 1))))) else (none)) else ((index_Make.f k x7 x1).bind fun t331 => (if x1 = 0 then (none) else (if (t331.length : Int) = (wrap64 (Int.tdiv (wrap64 ((wrap64 ((x7.length : Int) + x1)) - 1)) x1)) then (cooperagelaw9_IndexFew.l1 k x1 x7 t331 0) else (some false))))
def cooperagelaw9_IndexFew.l1 : Nat → Int → List (S34) → List (S36) → Int → Option (Bool)
  | 0, _, _, _, _ => none
  | k + 1, x1, x7, x10, x11 => if x11 < (x10.length : Int) then (if 0 ≤ x11 then (if 0 ≤ (wrap64 (x11 * x1)) then (if (wrap64 (x11 * x1)) < (x7.length : Int) then (if ((rd_T36 x10 x11).f0) = ((rd_T34 x7 (wrap64 (x11 * x1))).f0) then (if x11 > 0 then (if 0 ≤ (wrap64 (x11 - 1)) then (if (wrap64 (x11 - 1)) < (x10.length : Int) then (if ((rd_T36 x10 x11).f2) ≤ ((rd_T36 x10 (wrap64 (x11 - 1))).f2) then (some false) else (if ((rd_T36 x10 x11).f1) < ((rd_T36 x10 (wrap64 (x11 - 1))).f1) then (some false) else (if x11 = 0 then (if ((rd_T36 x10 x11).f2) = 0 then (if ((rd_T36 x10 x11).f1) = (-1099511627777) then (cooperagelaw9_IndexFew.l1 k x1 x7 x10 (wrap64 (x11 + 1))) else (some false)) else (some false)) else (cooperagelaw9_IndexFew.l1 k x1 x7 x10 (wrap64 (x11 + 1)))))) else (none)) else (none)) else (if x11 = 0 then (if ((rd_T36 x10 x11).f2) = 0 then (if ((rd_T36 x10 x11).f1) = (-1099511627777) then (cooperagelaw9_IndexFew.l1 k x1 x7 x10 (wrap64 (x11 + 1))) else (some false)) else (some false)) else (cooperagelaw9_IndexFew.l1 k x1 x7 x10 (wrap64 (x11 + 1))))) else (some false)) else (none)) else (none)) else (none)) else (some true)
end
def cooperagelaw9_IndexFew.f (k : Nat) (l0 : List (S34)) (a1 : Int) : Option (Bool) := (cooperagelaw9_alive.f k).bind fun t323 => ((cooperagelaw8_Big.f k l0).bind fun t324 => (if t323 = true then (if t324 = true then (cooperagelaw9_IndexFew.j0 k l0 a1 t323 true) else (if a1 < 1 then (cooperagelaw9_IndexFew.j0 k l0 a1 t323 true) else (cooperagelaw9_IndexFew.j0 k l0 a1 t323 (decide (a1 > 100))))) else (cooperagelaw9_IndexFew.j0 k l0 a1 t323 true)))
theorem cooperagelaw9_IndexFew.mono_l : ∀ k, (∀ y0 y1 y2 y3, LeO (cooperagelaw9_IndexFew.j0 k y0 y1 y2 y3) (cooperagelaw9_IndexFew.j0 (k + 1) y0 y1 y2 y3)) ∧ (∀ y0 y1 y2 y3, LeO (cooperagelaw9_IndexFew.l0 k y0 y1 y2 y3) (cooperagelaw9_IndexFew.l0 (k + 1) y0 y1 y2 y3)) ∧ (∀ y0 y1 y2 y3, LeO (cooperagelaw9_IndexFew.l1 k y0 y1 y2 y3) (cooperagelaw9_IndexFew.l1 (k + 1) y0 y1 y2 y3))
  | 0 => ⟨fun _ _ _ _ r h => by simp [cooperagelaw9_IndexFew.j0] at h, fun _ _ _ _ r h => by simp [cooperagelaw9_IndexFew.l0] at h, fun _ _ _ _ r h => by simp [cooperagelaw9_IndexFew.l1] at h⟩
  | k + 1 => by
    obtain ⟨ih0, ih1, ih2⟩ := cooperagelaw9_IndexFew.mono_l k
    refine ⟨?_, ?_, ?_⟩
    · intro y0 y1 y2 y3
      unfold cooperagelaw9_IndexFew.j0
      repeat' first
      | (with_reducible exact ih0 _ _ _ _)
      | (with_reducible exact ih1 _ _ _ _)
      | (with_reducible exact ih2 _ _ _ _)
      | (with_reducible exact cooperagelaw8_Big.mono _ _)
      | (with_reducible exact cooperagelaw9_alive.mono _)
      | (with_reducible exact index_Make.mono _ _ _)
      | (with_reducible exact LeO.refl _)
      | (with_reducible exact LeO.none _)
      | (with_reducible refine LeO.ite ?_ ?_)
      | (with_reducible refine LeO.bind ?_ (fun _ => ?_))
      | exact ih0 _ _ _ _
      | exact ih1 _ _ _ _
      | exact ih2 _ _ _ _
      | exact cooperagelaw8_Big.mono _ _
      | exact cooperagelaw9_alive.mono _
      | exact index_Make.mono _ _ _
      | exact LeO.none _
      | refine LeO.ite ?_ ?_
      | refine LeO.bind ?_ (fun _ => ?_)
    · intro y0 y1 y2 y3
      unfold cooperagelaw9_IndexFew.l0
      repeat' first
      | (with_reducible exact ih0 _ _ _ _)
      | (with_reducible exact ih1 _ _ _ _)
      | (with_reducible exact ih2 _ _ _ _)
      | (with_reducible exact cooperagelaw8_Big.mono _ _)
      | (with_reducible exact cooperagelaw9_alive.mono _)
      | (with_reducible exact index_Make.mono _ _ _)
      | (with_reducible exact LeO.refl _)
      | (with_reducible exact LeO.none _)
      | (with_reducible refine LeO.ite ?_ ?_)
      | (with_reducible refine LeO.bind ?_ (fun _ => ?_))
      | exact ih0 _ _ _ _
      | exact ih1 _ _ _ _
      | exact ih2 _ _ _ _
      | exact cooperagelaw8_Big.mono _ _
      | exact cooperagelaw9_alive.mono _
      | exact index_Make.mono _ _ _
      | exact LeO.none _
      | refine LeO.ite ?_ ?_
      | refine LeO.bind ?_ (fun _ => ?_)
    · intro y0 y1 y2 y3
      unfold cooperagelaw9_IndexFew.l1
      repeat' first
      | (with_reducible exact ih0 _ _ _ _)
      | (with_reducible exact ih1 _ _ _ _)
      | (with_reducible exact ih2 _ _ _ _)
      | (with_reducible exact cooperagelaw8_Big.mono _ _)
      | (with_reducible exact cooperagelaw9_alive.mono _)
      | (with_reducible exact index_Make.mono _ _ _)
      | (with_reducible exact LeO.refl _)
      | (with_reducible exact LeO.none _)
      | (with_reducible refine LeO.ite ?_ ?_)
      | (with_reducible refine LeO.bind ?_ (fun _ => ?_))
      | exact ih0 _ _ _ _
      | exact ih1 _ _ _ _
      | exact ih2 _ _ _ _
      | exact cooperagelaw8_Big.mono _ _
      | exact cooperagelaw9_alive.mono _
      | exact index_Make.mono _ _ _
      | exact LeO.none _
      | refine LeO.ite ?_ ?_
      | refine LeO.bind ?_ (fun _ => ?_)
theorem cooperagelaw9_IndexFew.mono : ∀ a0 a1 k, LeO (cooperagelaw9_IndexFew.f k a0 a1) (cooperagelaw9_IndexFew.f (k + 1) a0 a1) := by
  intro a0 a1 k
  obtain ⟨ih0, ih1, ih2⟩ := cooperagelaw9_IndexFew.mono_l k
  unfold cooperagelaw9_IndexFew.f
  repeat' first
      | (with_reducible exact ih0 _ _ _ _)
      | (with_reducible exact ih1 _ _ _ _)
      | (with_reducible exact ih2 _ _ _ _)
      | (with_reducible exact cooperagelaw8_Big.mono _ _)
      | (with_reducible exact cooperagelaw9_alive.mono _)
      | (with_reducible exact index_Make.mono _ _ _)
      | (with_reducible exact LeO.refl _)
      | (with_reducible exact LeO.none _)
      | (with_reducible refine LeO.ite ?_ ?_)
      | (with_reducible refine LeO.bind ?_ (fun _ => ?_))
      | exact ih0 _ _ _ _
      | exact ih1 _ _ _ _
      | exact ih2 _ _ _ _
      | exact cooperagelaw8_Big.mono _ _
      | exact cooperagelaw9_alive.mono _
      | exact index_Make.mono _ _ _
      | exact LeO.none _
      | refine LeO.ite ?_ ?_
      | refine LeO.bind ?_ (fun _ => ?_)
set_option maxHeartbeats 8000000 in
set_option maxRecDepth 100000 in
theorem cooperagelaw9_IndexFew.calls (k : Nat) (A0 : Option Addr) (c0 : Nat) (l0 : List (S34)) (a1 : Int) (r : Bool) (w : World) (hr0 : Kd.C k34 w A0 l0.length l0) (hc0 : l0.length ≤ c0) (h : cooperagelaw9_IndexFew.f k l0 a1 = some r) :
    Calls Try.prog 4 #[.slice A0 l0.length c0, .int .i64 a1] w fun e w' => e = .returned (.bool r) ∧ Below w.heap.size w w' := by
  have hu34 := Try.underlying34
  have HR0 := Aside0.mk hr0
  have HC0 := Aside0.mk hc0
  clear hr0 hc0
  have HB := Aside0.mk (Below.refl w.heap.size w)
  have H : ((cooperagelaw9_alive.f k).bind fun t323 => ((cooperagelaw8_Big.f k l0).bind fun t324 => (if t323 = true then (if t324 = true then (cooperagelaw9_IndexFew.j0 k l0 a1 t323 true) else (if a1 < 1 then (cooperagelaw9_IndexFew.j0 k l0 a1 t323 true) else (cooperagelaw9_IndexFew.j0 k l0 a1 t323 (decide (a1 > 100))))) else (cooperagelaw9_IndexFew.j0 k l0 a1 t323 true)))) = some r := h
  clear h
  replace H := Option.bind_eq_some_iff.mp H
  obtain ⟨t323, A30, H⟩ := H
  replace H : ((cooperagelaw8_Big.f k l0).bind fun t324 => (if t323 = true then (if t324 = true then (cooperagelaw9_IndexFew.j0 k l0 a1 t323 true) else (if a1 < 1 then (cooperagelaw9_IndexFew.j0 k l0 a1 t323 true) else (cooperagelaw9_IndexFew.j0 k l0 a1 t323 (decide (a1 > 100))))) else (cooperagelaw9_IndexFew.j0 k l0 a1 t323 true))) = some r := H
  have A3 := Aside0.mk A30
  clear A30
  replace H := Option.bind_eq_some_iff.mp H
  obtain ⟨t324, A40, H⟩ := H
  replace H : (if t323 = true then (if t324 = true then (cooperagelaw9_IndexFew.j0 k l0 a1 t323 true) else (if a1 < 1 then (cooperagelaw9_IndexFew.j0 k l0 a1 t323 true) else (cooperagelaw9_IndexFew.j0 k l0 a1 t323 (decide (a1 > 100))))) else (cooperagelaw9_IndexFew.j0 k l0 a1 t323 true)) = some r := H
  have A4 := Aside0.mk A40
  clear A40
  have HC5 := Aside0.mk H
  clear H
  go_enter Try.func4, Try.ntmps4
  go_upto_region 3 with (first | (go_at_call 11; (with_reducible refine (cooperagelaw9_alive.calls k  t323 _ A3.out).mono ?_); rintro e w6 ⟨rfl, hb⟩; have n0_ := Aside0.mk (below_step (by repeat (first | (with_reducible first | exact HB.out | apply below_alloc | apply pw_below_drewN | apply below_drew1) | exact HB.out)) hb); clear HB; have HB := n0_; clear n0_; (try clear hb); (try clear hb2); (try clear hk); (try clear hi)) | (go_at_call 12; (with_reducible refine (cooperagelaw8_Big.calls k _ _ l0 t324 _ ?side1 ?side2 A4.out).mono ?_); (case side1 => repeat (first | exact (Kd.C_below HR0.out HB.out) | (with_reducible refine Kd.C_alloc ?_ _) | (with_reducible refine Kd.C_drewN ?_ _) | (with_reducible refine Kd.C_drew ?_))); (case side2 => exact HC0.out); rintro e w' ⟨rfl, ⟨nd, rfl⟩⟩; (try first | exact ⟨rfl, _, World.drewN_drewN _ _ _⟩ | exact ⟨rfl, _, Eq.trans (World.drewN_drewN _ _ _) (congrArg (World.drewN _) (Nat.add_assoc _ _ _))⟩)))
  repeat (go_quiet (first | (go_at_call 11; (with_reducible refine (cooperagelaw9_alive.calls k  t323 _ A3.out).mono ?_); rintro e w6 ⟨rfl, hb⟩; have n0_ := Aside0.mk (below_step (by repeat (first | (with_reducible first | exact HB.out | apply below_alloc | apply pw_below_drewN | apply below_drew1) | exact HB.out)) hb); clear HB; have HB := n0_; clear n0_; (try clear hb); (try clear hb2); (try clear hk); (try clear hi)) | (go_at_call 12; (with_reducible refine (cooperagelaw8_Big.calls k _ _ l0 t324 _ ?side1 ?side2 A4.out).mono ?_); (case side1 => repeat (first | exact (Kd.C_below HR0.out HB.out) | (with_reducible refine Kd.C_alloc ?_ _) | (with_reducible refine Kd.C_drewN ?_ _) | (with_reducible refine Kd.C_drew ?_))); (case side2 => exact HC0.out); rintro e w' ⟨rfl, ⟨nd, rfl⟩⟩; (try first | exact ⟨rfl, _, World.drewN_drewN _ _ _⟩ | exact ⟨rfl, _, Eq.trans (World.drewN_drewN _ _ _) (congrArg (World.drewN _) (Nat.add_assoc _ _ _))⟩))); go_upto_region 3 with (first | (go_at_call 11; (with_reducible refine (cooperagelaw9_alive.calls k  t323 _ A3.out).mono ?_); rintro e w6 ⟨rfl, hb⟩; have n0_ := Aside0.mk (below_step (by repeat (first | (with_reducible first | exact HB.out | apply below_alloc | apply pw_below_drewN | apply below_drew1) | exact HB.out)) hb); clear HB; have HB := n0_; clear n0_; (try clear hb); (try clear hb2); (try clear hk); (try clear hi)) | (go_at_call 12; (with_reducible refine (cooperagelaw8_Big.calls k _ _ l0 t324 _ ?side1 ?side2 A4.out).mono ?_); (case side1 => repeat (first | exact (Kd.C_below HR0.out HB.out) | (with_reducible refine Kd.C_alloc ?_ _) | (with_reducible refine Kd.C_drewN ?_ _) | (with_reducible refine Kd.C_drew ?_))); (case side2 => exact HC0.out); rintro e w' ⟨rfl, ⟨nd, rfl⟩⟩; (try first | exact ⟨rfl, _, World.drewN_drewN _ _ _⟩ | exact ⟨rfl, _, Eq.trans (World.drewN_drewN _ _ _) (congrArg (World.drewN _) (Nat.add_assoc _ _ _))⟩))))
  (try simp only [Act.put, List.setIfInBounds_toArray, List.set_cons_zero, List.set_cons_succ])
  go_cut [27] (fun v27 wc => ∃ (kq : Nat) (x27_4 : Bool), v27 = .bool x27_4 ∧ Aside0 (cooperagelaw9_IndexFew.j0 kq l0 a1 t323 x27_4 = some r) ∧ Aside0 (kq ≤ k) ∧ Aside0 (Below w.heap.size w wc))
  case first =>
    have H := HC5.out
    clear HC5
    by_cases c7 : t323 = true
    · subst c7
      have H1 : (if t324 = true then (cooperagelaw9_IndexFew.j0 k l0 a1 true true) else (if a1 < 1 then (cooperagelaw9_IndexFew.j0 k l0 a1 true true) else (cooperagelaw9_IndexFew.j0 k l0 a1 true (decide (a1 > 100))))) = some r := by rw [if_pos rfl] at H; exact H
      clear H
      have H := H1
      clear H1
      by_cases c8 : t324 = true
      · subst c8
        have H1 : (cooperagelaw9_IndexFew.j0 k l0 a1 true true) = some r := by rw [if_pos rfl] at H; exact H
        clear H
        have H := H1
        clear H1
        have H' := Aside0.mk H
        clear H
        go_wp2
        repeat (go_quiet (fail); try go_wp2)
        go_meet
        case rel => exact ⟨_, (true), (by first | rfl | (simp; done) | (simp [*]; done)), H', ⟨by first | omega | exact Nat.le_refl _⟩, ⟨by repeat (first | (with_reducible first | exact HB.out | apply below_alloc | apply pw_below_drewN | apply below_drew1) | exact HB.out)⟩⟩
      · replace c8 := Bool.eq_false_iff.mpr c8
        subst c8
        have H1 : (if a1 < 1 then (cooperagelaw9_IndexFew.j0 k l0 a1 true true) else (cooperagelaw9_IndexFew.j0 k l0 a1 true (decide (a1 > 100)))) = some r := by rw [if_neg (show ¬ (false = true) by decide)] at H; exact H
        clear H
        have H := H1
        clear H1
        by_cases c9 : a1 < 1
        · rw [if_pos c9] at H
          have c9b0 : decide (a1 < 1) = true := decide_eq_true c9
          clear c9
          (first | rw [c9b0] | (simp only [i64_w, i32_w]; rw [c9b0]) | skip)
          have H' := Aside0.mk H
          clear H
          go_wp2
          repeat (go_quiet (fail); try go_wp2)
          go_meet
          case rel => exact ⟨_, (true), (by first | rfl | (simp; done) | (simp [*]; done)), H', ⟨by first | omega | exact Nat.le_refl _⟩, ⟨by repeat (first | (with_reducible first | exact HB.out | apply below_alloc | apply pw_below_drewN | apply below_drew1) | exact HB.out)⟩⟩
        · rw [if_neg c9] at H
          have c9b0 : decide (a1 < 1) = false := decide_eq_false c9
          clear c9
          (first | rw [c9b0] | (simp only [i64_w, i32_w]; rw [c9b0]) | skip)
          have H' := Aside0.mk H
          clear H
          go_wp2
          repeat (go_quiet (fail); try go_wp2)
          go_meet
          case rel => exact ⟨_, (decide (a1 > 100)), (by first | rfl | (simp; done) | (simp [*]; done)), H', ⟨by first | omega | exact Nat.le_refl _⟩, ⟨by repeat (first | (with_reducible first | exact HB.out | apply below_alloc | apply pw_below_drewN | apply below_drew1) | exact HB.out)⟩⟩
    · replace c7 := Bool.eq_false_iff.mpr c7
      subst c7
      have H1 : (cooperagelaw9_IndexFew.j0 k l0 a1 false true) = some r := by rw [if_neg (show ¬ (false = true) by decide)] at H; exact H
      clear H
      have H := H1
      clear H1
      have H' := Aside0.mk H
      clear H
      go_wp2
      repeat (go_quiet (fail); try go_wp2)
      go_meet
      case rel => exact ⟨_, (true), (by first | rfl | (simp; done) | (simp [*]; done)), H', ⟨by first | omega | exact Nat.le_refl _⟩, ⟨by repeat (first | (with_reducible first | exact HB.out | apply below_alloc | apply pw_below_drewN | apply below_drew1) | exact HB.out)⟩⟩
  case rest =>
    clear HC5
    try clear p2
    try clear c4
    try clear c7
    try clear c8
    try clear c9
    try clear c9b0
    obtain ⟨kq, x27_4, rfl, HA, HJ4, HB⟩ := hcut
    cases kq with
    | zero => exact absurd HA.out (by simp [cooperagelaw9_IndexFew.j0])
    | succ kj4 =>
      have H := HA.out
      clear HA
      simp only [cooperagelaw9_IndexFew.j0] at H
      by_cases c10 : x27_4 = true
      · subst c10
        have H1 : (some t323) = some r := by rw [if_pos rfl] at H; exact H
        clear H
        have H := H1
        clear H1
        obtain rfl := Option.some.inj H
        go_wp2
        repeat (go_quiet (fail); try go_wp2)
        go_ret
        exact ⟨by first | rfl | (simp [errW_none, errW_some] <;> rfl) | (simp [*, errW_none, errW_some] <;> rfl) | (simp [errW_none, errW_some]; generalize ByteArray.toList _ = l_; cases l_ <;> rfl), by repeat (first | (with_reducible first | exact HB.out | apply below_alloc | apply pw_below_drewN | apply below_drew1) | exact HB.out)⟩
      · replace c10 := Bool.eq_false_iff.mpr c10
        subst c10
        have H1 : (cooperagelaw9_IndexFew.l0 kj4 l0 a1 ([] : List (S34)) 0) = some r := by rw [if_neg (show ¬ (false = true) by decide)] at H; exact H
        clear H
        have H := H1
        clear H1
        have H' := Aside0.mk H
        clear H
        go_wp2
        repeat (go_quiet (fail); try go_wp2)
        go_loopg [7, 8] kj4 (fun kq v7 v8 w' => ∃ (x7_2 : List (S34)) (x8_2 : Int), v8 = .int .i64 x8_2 ∧ Aside0 (cooperagelaw9_IndexFew.l0 kq l0 a1 x7_2 x8_2 = some r) ∧ Aside0 (kq ≤ kj4) ∧ Aside0 (Kd.R k34 34 w' w.heap.size (fun _ => True) v7 x7_2) ∧ Aside0 (Below w.heap.size w w'))
        case atStart => exact ⟨(([] : List (S34))), (0), (by first | rfl | (simp; done) | (simp [*]; done)), H', ⟨Nat.le_refl _⟩, ⟨by first | exact Kd.R_nil _ _ _ _ _ | exact Kd.N_nil _ _ _ _ _ | exact Kd.V_nil _ _ _ _ _ | exact Kd.Q_nil _ _ _ _ _ | exact Kd.S_nil _ _ _ _ _⟩, ⟨by repeat (first | (with_reducible first | exact HB.out | apply below_alloc | apply pw_below_drewN | apply below_drew1) | exact HB.out)⟩⟩
        case round =>
          clear H'
          try clear c1
          try clear p2
          try clear c4
          try clear c7
          try clear c8
          try clear c9
          try clear c9b0
          try clear c10
          try clear p2
          obtain ⟨x7_2, x8_2, rfl, HA, HK2, HO_7, HB⟩ := hrel
          cases gk with
          | zero => exact absurd HA.out (by simp [cooperagelaw9_IndexFew.l0])
          | succ k2 =>
            have H := HA.out
            clear HA
            simp only [cooperagelaw9_IndexFew.l0] at H
            by_cases c11 : x8_2 < (l0.length : Int)
            · rw [if_pos c11] at H
              have c11b0 : decide (x8_2 < (l0.length : Int)) = true := decide_eq_true c11
              clear c11
              by_cases c12 : 0 ≤ x8_2
              · rw [if_pos c12] at H
                have c12b0 : decide (0 ≤ x8_2) = true := decide_eq_true c12
                clear c12
                replace H := Option.bind_eq_some_iff.mp H
                obtain ⟨t327, A130, H⟩ := H
                replace H : (if t327 = true then (if x7_2.length < 2513169434916 then (cooperagelaw9_IndexFew.l0 k2 l0 a1 (x7_2 ++ [(⟨x8_2, (rd_T34 l0 x8_2).f1, (rd_T34 l0 x8_2).f2, (rd_T34 l0 x8_2).f3, (rd_T34 l0 x8_2).f4⟩ : S34)]) (wrap64 (x8_2 + 1))) else (none)) else (cooperagelaw9_IndexFew.l0 k2 l0 a1 x7_2 (wrap64 (x8_2 + 1)))) = some r := H
                have A13 := Aside0.mk A130
                clear A130
                by_cases c14 : t327 = true
                · subst c14
                  have H1 : (if x7_2.length < 2513169434916 then (cooperagelaw9_IndexFew.l0 k2 l0 a1 (x7_2 ++ [(⟨x8_2, (rd_T34 l0 x8_2).f1, (rd_T34 l0 x8_2).f2, (rd_T34 l0 x8_2).f3, (rd_T34 l0 x8_2).f4⟩ : S34)]) (wrap64 (x8_2 + 1))) else (none)) = some r := by rw [if_pos rfl] at H; exact H
                  clear H
                  have H := H1
                  clear H1
                  by_cases c15 : x7_2.length < 2513169434916
                  · rw [if_pos c15] at H
                    have LMc15 := Aside0.mk c15
                    clear c15
                    obtain ⟨y328, hy328⟩ : ∃ y_ : List (S34), y_ = (x7_2 ++ [(⟨x8_2, (rd_T34 l0 x8_2).f1, (rd_T34 l0 x8_2).f2, (rd_T34 l0 x8_2).f3, (rd_T34 l0 x8_2).f4⟩ : S34)]) := ⟨_, rfl⟩
                    replace H : (cooperagelaw9_IndexFew.l0 k2 l0 a1 y328 (wrap64 (x8_2 + 1))) = some r := by first | (rw [hy328]; with_reducible exact H) | (have H2_ := (Option.bind_some _ _).symm.trans H; rw [hy328]; with_reducible exact H2_) | (have H2_ := (Option.bind_some _ _).symm.trans H; with_reducible exact H2_) | with_reducible exact H | (rw [hy328]; exact H) | exact H
                    have Ny328 := Aside0.mk hy328
                    clear hy328
                    have H' := Aside0.mk H
                    clear H
                    have p325 : 0 ≤ (x8_2 : Int) := of_decide_eq_true (by first | (with_reducible assumption) | assumption)
                    have q325 : x8_2 < (l0.length : Int) := of_decide_eq_true (by first | (with_reducible assumption) | assumption)
                    obtain ⟨ad325, e325, hx325_0, hx325_1, hx325_2, hx325_3, hx325_4⟩ := at_T34 HR0.out x8_2 p325 q325
                    cases e325
                    replace hx325_0 := (HB.out.cell (World.block_lt_of_cell? w _ hx325_0)).trans hx325_0
                    replace hx325_1 := (HB.out.cell (World.block_lt_of_cell? w _ hx325_1)).trans hx325_1
                    replace hx325_2 := (HB.out.cell (World.block_lt_of_cell? w _ hx325_2)).trans hx325_2
                    replace hx325_3 := (HB.out.cell (World.block_lt_of_cell? w _ hx325_3)).trans hx325_3
                    replace hx325_4 := (HB.out.cell (World.block_lt_of_cell? w _ hx325_4)).trans hx325_4
                    replace p325 := eq_true p325
                    replace q325 := eq_true q325
                    go_wp2_with (first | ((with_reducible refine gate_dst (N := 9) rfl ?_); refine box_event ?hg (N := 9) ?hd (cs := #[.int .i64 0, .int .i64 0, .string (⟨#[]⟩ : ByteArray), .string (⟨#[]⟩ : ByteArray), .bool false]) (t := 34) ?hr ?_; (case hd => rfl); (case hg => rfl); (case hr => first | (go_simp; done) | (go_simp; rfl)); intro gb326 hg w16 hbox hb; have n0_ := Aside0.mk (Kd.R_below (Kd.R_elderB (by (with_reducible repeat (first | apply Kd.R_alloc | apply Kd.R_drewN | apply Kd.R_drew)); exact HO_7.out) gb326 (Nat.le_of_eq hg.symm)) hb); have n1_ := Aside0.mk (below_step (by repeat (first | (with_reducible first | exact HB.out | apply below_alloc | apply pw_below_drewN | apply below_drew1) | exact HB.out)) hb); have n2_ := Aside0.mk (hbox); have n3_ := Aside0.mk ((by rw [hg]; exact (below_size (by repeat (first | (with_reducible first | exact HB.out | apply below_alloc | apply pw_below_drewN | apply below_drew1) | exact HB.out))) : w.heap.size ≤ gb326)); have n4_ := Aside0.mk ((by rw [hg]; exact (below_size (by repeat (first | (with_reducible first | exact HB.out | apply below_alloc | apply pw_below_drewN | apply below_drew1) | exact HB.out))) : w.heap.size ≤ gb326)); clear HO_7; clear HB; have HO_7 := n0_; have HB := n1_; have BK326 := n2_; have GW326 := n3_; have GE326 := n4_; clear n0_ n1_ n2_ n3_ n4_; clear hb hbox hg; have hcz17_0 : w16.cell? ⟨gb326, 0, none⟩ = some (.int .i64 0) := (blk_cell BK326.out 0).trans rfl; have hcz17_1 : w16.cell? ⟨gb326, 1, none⟩ = some (.int .i64 0) := (blk_cell BK326.out 1).trans rfl; have hcz17_2 : w16.cell? ⟨gb326, 2, none⟩ = some (.string (⟨#[]⟩ : ByteArray)) := (blk_cell BK326.out 2).trans rfl; have hcz17_3 : w16.cell? ⟨gb326, 3, none⟩ = some (.string (⟨#[]⟩ : ByteArray)) := (blk_cell BK326.out 3).trans rfl; have hcz17_4 : w16.cell? ⟨gb326, 4, none⟩ = some (.bool false) := (blk_cell BK326.out 4).trans rfl; have hfz17_0 := blk_frozen BK326.out 0; have hfz17_1 := blk_frozen BK326.out 1; have hfz17_2 := blk_frozen BK326.out 2; have hfz17_3 := blk_frozen BK326.out 3; have hfz17_4 := blk_frozen BK326.out 4) | (go_at_call 16; (with_reducible refine (cooperageref1_Right.calls x8_2 ((rd_T34 l0 x8_2).f1) ((rd_T34 l0 x8_2).f2) ((rd_T34 l0 x8_2).f3) ((rd_T34 l0 x8_2).f4) true _ A13.out).mono ?_); rintro e w18 ⟨rfl, hb⟩; have n0_ := Aside0.mk (Kd.R_below (by (with_reducible repeat (first | apply Kd.R_alloc | apply Kd.R_drewN | apply Kd.R_drew)); exact (Kd.R_mono (Kd.R_far (p := ⟨gb326, 0, none⟩) (Kd.R_far (p := ⟨gb326, 4, none⟩) (Kd.R_far (p := ⟨gb326, 3, none⟩) (Kd.R_far (p := ⟨gb326, 2, none⟩) (Kd.R_far (p := ⟨gb326, 1, none⟩) (Kd.R_far (p := ⟨gb326, 0, none⟩) (Kd.R_mono HO_7.out (fun k_ hk => (⟨hk, hk.2⟩ : _ ∧ k_ ≠ gb326))) (fun _ hk => hk.2) (.int .i64 ((rd_T34 l0 x8_2).f0))) (fun _ hk => hk.2) (.int .i64 ((rd_T34 l0 x8_2).f1))) (fun _ hk => hk.2) (.string ((rd_T34 l0 x8_2).f2))) (fun _ hk => hk.2) (.string ((rd_T34 l0 x8_2).f3))) (fun _ hk => hk.2) (.bool ((rd_T34 l0 x8_2).f4))) (fun _ hk => hk.2) (.int .i64 x8_2)) (fun _ h_ => h_.1))) hb); have n1_ := Aside0.mk (blk_below (g := gb326) (o := .cells #[.int .i64 x8_2, .int .i64 ((rd_T34 l0 x8_2).f1), .string ((rd_T34 l0 x8_2).f2), .string ((rd_T34 l0 x8_2).f3), .bool ((rd_T34 l0 x8_2).f4)] 34 (0, 0)) (by (with_reducible repeat (first | refine blk_drewN ?_ _ | refine blk_drew ?_ | refine blk_alloc ?_ _)); refine blk_put (cs := #[.int .i64 ((rd_T34 l0 x8_2).f0), .int .i64 ((rd_T34 l0 x8_2).f1), .string ((rd_T34 l0 x8_2).f2), .string ((rd_T34 l0 x8_2).f3), .bool ((rd_T34 l0 x8_2).f4)]) ?_ 0 _ rfl; (with_reducible repeat (first | refine blk_drewN ?_ _ | refine blk_drew ?_ | refine blk_alloc ?_ _)); refine blk_put (cs := #[.int .i64 ((rd_T34 l0 x8_2).f0), .int .i64 ((rd_T34 l0 x8_2).f1), .string ((rd_T34 l0 x8_2).f2), .string ((rd_T34 l0 x8_2).f3), .bool false]) ?_ 4 _ rfl; (with_reducible repeat (first | refine blk_drewN ?_ _ | refine blk_drew ?_ | refine blk_alloc ?_ _)); refine blk_put (cs := #[.int .i64 ((rd_T34 l0 x8_2).f0), .int .i64 ((rd_T34 l0 x8_2).f1), .string ((rd_T34 l0 x8_2).f2), .string (⟨#[]⟩ : ByteArray), .bool false]) ?_ 3 _ rfl; (with_reducible repeat (first | refine blk_drewN ?_ _ | refine blk_drew ?_ | refine blk_alloc ?_ _)); refine blk_put (cs := #[.int .i64 ((rd_T34 l0 x8_2).f0), .int .i64 ((rd_T34 l0 x8_2).f1), .string (⟨#[]⟩ : ByteArray), .string (⟨#[]⟩ : ByteArray), .bool false]) ?_ 2 _ rfl; (with_reducible repeat (first | refine blk_drewN ?_ _ | refine blk_drew ?_ | refine blk_alloc ?_ _)); refine blk_put (cs := #[.int .i64 ((rd_T34 l0 x8_2).f0), .int .i64 0, .string (⟨#[]⟩ : ByteArray), .string (⟨#[]⟩ : ByteArray), .bool false]) ?_ 1 _ rfl; (with_reducible repeat (first | refine blk_drewN ?_ _ | refine blk_drew ?_ | refine blk_alloc ?_ _)); refine blk_put (cs := #[.int .i64 0, .int .i64 0, .string (⟨#[]⟩ : ByteArray), .string (⟨#[]⟩ : ByteArray), .bool false]) ?_ 0 _ rfl; (with_reducible repeat (first | refine blk_drewN ?_ _ | refine blk_drew ?_ | refine blk_alloc ?_ _)); exact BK326.out) hb); have n2_ := Aside0.mk (below_step (by repeat (first | (with_reducible first | exact HB.out | apply below_alloc | apply pw_below_drewN | apply below_drew1 | refine below_set ?_ GE326.out) | exact HB.out)) hb); clear HO_7; clear BK326; clear HB; have HO_7 := n0_; have BK326 := n1_; have HB := n2_; clear n0_ n1_ n2_; (try clear hb); (try clear hb2); (try clear hk); (try clear hi); have hcz19_0 : w18.cell? ⟨gb326, 0, none⟩ = some (.int .i64 x8_2) := (blk_cell BK326.out 0).trans rfl; have hcz19_1 : w18.cell? ⟨gb326, 1, none⟩ = some (.int .i64 ((rd_T34 l0 x8_2).f1)) := (blk_cell BK326.out 1).trans rfl; have hcz19_2 : w18.cell? ⟨gb326, 2, none⟩ = some (.string ((rd_T34 l0 x8_2).f2)) := (blk_cell BK326.out 2).trans rfl; have hcz19_3 : w18.cell? ⟨gb326, 3, none⟩ = some (.string ((rd_T34 l0 x8_2).f3)) := (blk_cell BK326.out 3).trans rfl; have hcz19_4 : w18.cell? ⟨gb326, 4, none⟩ = some (.bool ((rd_T34 l0 x8_2).f4)) := (blk_cell BK326.out 4).trans rfl; have hfz19_0 := blk_frozen BK326.out 0; have hfz19_1 := blk_frozen BK326.out 1; have hfz19_2 := blk_frozen BK326.out 2; have hfz19_3 := blk_frozen BK326.out 3; have hfz19_4 := blk_frozen BK326.out 4) | ((with_reducible refine gate_builtin (b := .append) (xs := #[(.tmp 43), .tmp 45]) rfl ?_); at_builtin; refine Kd.R_append k34 (w0 := w) w.heap.size rfl (.tmp 43) (.tmp 45) 22 34 (.agg #[(.int .i64 0), (.int .i64 0), (.string ⟨#[]⟩), (.string ⟨#[]⟩), (.bool false)]) 56 rfl Try.underlying22 info34 rfl (by decide) (by omega) u7 x7_2 (⟨x8_2, (rd_T34 l0 x8_2).f1, (rd_T34 l0 x8_2).f2, (rd_T34 l0 x8_2).f3, (rd_T34 l0 x8_2).f4⟩ : S34) [.int .i64 x8_2, .int .i64 ((rd_T34 l0 x8_2).f1), .string ((rd_T34 l0 x8_2).f2), .string ((rd_T34 l0 x8_2).f3), .bool ((rd_T34 l0 x8_2).f4)] (fun k_ => k_ ≠ gb326) (fun _ => False) rfl rfl ?aP (fun _ hk => hk.elim) ?aF ?aO ?aB ?aS ?aL ?_; (case aP => exact k34_mkM _ _ _ (⟨x8_2, (rd_T34 l0 x8_2).f1, (rd_T34 l0 x8_2).f2, (rd_T34 l0 x8_2).f3, (rd_T34 l0 x8_2).f4⟩ : S34)); (case aB => exact (by repeat (first | (with_reducible first | exact HB.out | apply below_alloc | apply pw_below_drewN | apply below_drew1 | refine below_set ?_ GE326.out) | exact HB.out))); (case aF => exact (fun k_ hk => Kd.freshB (g := gb326) (o := .cells #[.int .i64 x8_2, .int .i64 ((rd_T34 l0 x8_2).f1), .string ((rd_T34 l0 x8_2).f2), .string ((rd_T34 l0 x8_2).f3), .bool ((rd_T34 l0 x8_2).f4)] 34 (0, 0)) (by (with_reducible repeat (first | refine blk_drewN ?_ _ | refine blk_drew ?_ | refine blk_alloc ?_ _)); exact BK326.out) k_ hk)); (case aO => exact (by (with_reducible repeat (first | apply Kd.R_alloc | apply Kd.R_drewN | apply Kd.R_drew)); exact Kd.R_mono HO_7.out (fun _ hk => hk.2))); (case aS => exact (below_size (by repeat (first | (with_reducible first | exact HB.out | apply below_alloc | apply pw_below_drewN | apply below_drew1 | refine below_set ?_ GE326.out) | exact HB.out)))); (case aL => have := LMc15.out; omega); intro v329 w20 ho hb hg hat; rw [← Ny328.out] at ho; have n0_ := Aside0.mk (blk_grown (g := gb326) (o := .cells #[.int .i64 x8_2, .int .i64 ((rd_T34 l0 x8_2).f1), .string ((rd_T34 l0 x8_2).f2), .string ((rd_T34 l0 x8_2).f3), .bool ((rd_T34 l0 x8_2).f4)] 34 (0, 0)) (by (with_reducible repeat (first | refine blk_drewN ?_ _ | refine blk_drew ?_ | refine blk_alloc ?_ _)); exact BK326.out) hg (Kd.R_away HO_7.out (fun _ hk => hk.2))); have n1_ := Aside0.mk (hb); have n2_ := Aside0.mk (ho); clear BK326; clear HB; clear HO_7; have BK326 := n0_; have HB := n1_; have HO330 := n2_; clear n0_ n1_ n2_; clear ho hb hg hat))
                    repeat (go_quiet (first | ((with_reducible refine gate_dst (N := 9) rfl ?_); refine box_event ?hg (N := 9) ?hd (cs := #[.int .i64 0, .int .i64 0, .string (⟨#[]⟩ : ByteArray), .string (⟨#[]⟩ : ByteArray), .bool false]) (t := 34) ?hr ?_; (case hd => rfl); (case hg => rfl); (case hr => first | (go_simp; done) | (go_simp; rfl)); intro gb326 hg w16 hbox hb; have n0_ := Aside0.mk (Kd.R_below (Kd.R_elderB (by (with_reducible repeat (first | apply Kd.R_alloc | apply Kd.R_drewN | apply Kd.R_drew)); exact HO_7.out) gb326 (Nat.le_of_eq hg.symm)) hb); have n1_ := Aside0.mk (below_step (by repeat (first | (with_reducible first | exact HB.out | apply below_alloc | apply pw_below_drewN | apply below_drew1) | exact HB.out)) hb); have n2_ := Aside0.mk (hbox); have n3_ := Aside0.mk ((by rw [hg]; exact (below_size (by repeat (first | (with_reducible first | exact HB.out | apply below_alloc | apply pw_below_drewN | apply below_drew1) | exact HB.out))) : w.heap.size ≤ gb326)); have n4_ := Aside0.mk ((by rw [hg]; exact (below_size (by repeat (first | (with_reducible first | exact HB.out | apply below_alloc | apply pw_below_drewN | apply below_drew1) | exact HB.out))) : w.heap.size ≤ gb326)); clear HO_7; clear HB; have HO_7 := n0_; have HB := n1_; have BK326 := n2_; have GW326 := n3_; have GE326 := n4_; clear n0_ n1_ n2_ n3_ n4_; clear hb hbox hg; have hcz17_0 : w16.cell? ⟨gb326, 0, none⟩ = some (.int .i64 0) := (blk_cell BK326.out 0).trans rfl; have hcz17_1 : w16.cell? ⟨gb326, 1, none⟩ = some (.int .i64 0) := (blk_cell BK326.out 1).trans rfl; have hcz17_2 : w16.cell? ⟨gb326, 2, none⟩ = some (.string (⟨#[]⟩ : ByteArray)) := (blk_cell BK326.out 2).trans rfl; have hcz17_3 : w16.cell? ⟨gb326, 3, none⟩ = some (.string (⟨#[]⟩ : ByteArray)) := (blk_cell BK326.out 3).trans rfl; have hcz17_4 : w16.cell? ⟨gb326, 4, none⟩ = some (.bool false) := (blk_cell BK326.out 4).trans rfl; have hfz17_0 := blk_frozen BK326.out 0; have hfz17_1 := blk_frozen BK326.out 1; have hfz17_2 := blk_frozen BK326.out 2; have hfz17_3 := blk_frozen BK326.out 3; have hfz17_4 := blk_frozen BK326.out 4) | (go_at_call 16; (with_reducible refine (cooperageref1_Right.calls x8_2 ((rd_T34 l0 x8_2).f1) ((rd_T34 l0 x8_2).f2) ((rd_T34 l0 x8_2).f3) ((rd_T34 l0 x8_2).f4) true _ A13.out).mono ?_); rintro e w18 ⟨rfl, hb⟩; have n0_ := Aside0.mk (Kd.R_below (by (with_reducible repeat (first | apply Kd.R_alloc | apply Kd.R_drewN | apply Kd.R_drew)); exact (Kd.R_mono (Kd.R_far (p := ⟨gb326, 0, none⟩) (Kd.R_far (p := ⟨gb326, 4, none⟩) (Kd.R_far (p := ⟨gb326, 3, none⟩) (Kd.R_far (p := ⟨gb326, 2, none⟩) (Kd.R_far (p := ⟨gb326, 1, none⟩) (Kd.R_far (p := ⟨gb326, 0, none⟩) (Kd.R_mono HO_7.out (fun k_ hk => (⟨hk, hk.2⟩ : _ ∧ k_ ≠ gb326))) (fun _ hk => hk.2) (.int .i64 ((rd_T34 l0 x8_2).f0))) (fun _ hk => hk.2) (.int .i64 ((rd_T34 l0 x8_2).f1))) (fun _ hk => hk.2) (.string ((rd_T34 l0 x8_2).f2))) (fun _ hk => hk.2) (.string ((rd_T34 l0 x8_2).f3))) (fun _ hk => hk.2) (.bool ((rd_T34 l0 x8_2).f4))) (fun _ hk => hk.2) (.int .i64 x8_2)) (fun _ h_ => h_.1))) hb); have n1_ := Aside0.mk (blk_below (g := gb326) (o := .cells #[.int .i64 x8_2, .int .i64 ((rd_T34 l0 x8_2).f1), .string ((rd_T34 l0 x8_2).f2), .string ((rd_T34 l0 x8_2).f3), .bool ((rd_T34 l0 x8_2).f4)] 34 (0, 0)) (by (with_reducible repeat (first | refine blk_drewN ?_ _ | refine blk_drew ?_ | refine blk_alloc ?_ _)); refine blk_put (cs := #[.int .i64 ((rd_T34 l0 x8_2).f0), .int .i64 ((rd_T34 l0 x8_2).f1), .string ((rd_T34 l0 x8_2).f2), .string ((rd_T34 l0 x8_2).f3), .bool ((rd_T34 l0 x8_2).f4)]) ?_ 0 _ rfl; (with_reducible repeat (first | refine blk_drewN ?_ _ | refine blk_drew ?_ | refine blk_alloc ?_ _)); refine blk_put (cs := #[.int .i64 ((rd_T34 l0 x8_2).f0), .int .i64 ((rd_T34 l0 x8_2).f1), .string ((rd_T34 l0 x8_2).f2), .string ((rd_T34 l0 x8_2).f3), .bool false]) ?_ 4 _ rfl; (with_reducible repeat (first | refine blk_drewN ?_ _ | refine blk_drew ?_ | refine blk_alloc ?_ _)); refine blk_put (cs := #[.int .i64 ((rd_T34 l0 x8_2).f0), .int .i64 ((rd_T34 l0 x8_2).f1), .string ((rd_T34 l0 x8_2).f2), .string (⟨#[]⟩ : ByteArray), .bool false]) ?_ 3 _ rfl; (with_reducible repeat (first | refine blk_drewN ?_ _ | refine blk_drew ?_ | refine blk_alloc ?_ _)); refine blk_put (cs := #[.int .i64 ((rd_T34 l0 x8_2).f0), .int .i64 ((rd_T34 l0 x8_2).f1), .string (⟨#[]⟩ : ByteArray), .string (⟨#[]⟩ : ByteArray), .bool false]) ?_ 2 _ rfl; (with_reducible repeat (first | refine blk_drewN ?_ _ | refine blk_drew ?_ | refine blk_alloc ?_ _)); refine blk_put (cs := #[.int .i64 ((rd_T34 l0 x8_2).f0), .int .i64 0, .string (⟨#[]⟩ : ByteArray), .string (⟨#[]⟩ : ByteArray), .bool false]) ?_ 1 _ rfl; (with_reducible repeat (first | refine blk_drewN ?_ _ | refine blk_drew ?_ | refine blk_alloc ?_ _)); refine blk_put (cs := #[.int .i64 0, .int .i64 0, .string (⟨#[]⟩ : ByteArray), .string (⟨#[]⟩ : ByteArray), .bool false]) ?_ 0 _ rfl; (with_reducible repeat (first | refine blk_drewN ?_ _ | refine blk_drew ?_ | refine blk_alloc ?_ _)); exact BK326.out) hb); have n2_ := Aside0.mk (below_step (by repeat (first | (with_reducible first | exact HB.out | apply below_alloc | apply pw_below_drewN | apply below_drew1 | refine below_set ?_ GE326.out) | exact HB.out)) hb); clear HO_7; clear BK326; clear HB; have HO_7 := n0_; have BK326 := n1_; have HB := n2_; clear n0_ n1_ n2_; (try clear hb); (try clear hb2); (try clear hk); (try clear hi); have hcz19_0 : w18.cell? ⟨gb326, 0, none⟩ = some (.int .i64 x8_2) := (blk_cell BK326.out 0).trans rfl; have hcz19_1 : w18.cell? ⟨gb326, 1, none⟩ = some (.int .i64 ((rd_T34 l0 x8_2).f1)) := (blk_cell BK326.out 1).trans rfl; have hcz19_2 : w18.cell? ⟨gb326, 2, none⟩ = some (.string ((rd_T34 l0 x8_2).f2)) := (blk_cell BK326.out 2).trans rfl; have hcz19_3 : w18.cell? ⟨gb326, 3, none⟩ = some (.string ((rd_T34 l0 x8_2).f3)) := (blk_cell BK326.out 3).trans rfl; have hcz19_4 : w18.cell? ⟨gb326, 4, none⟩ = some (.bool ((rd_T34 l0 x8_2).f4)) := (blk_cell BK326.out 4).trans rfl; have hfz19_0 := blk_frozen BK326.out 0; have hfz19_1 := blk_frozen BK326.out 1; have hfz19_2 := blk_frozen BK326.out 2; have hfz19_3 := blk_frozen BK326.out 3; have hfz19_4 := blk_frozen BK326.out 4) | ((with_reducible refine gate_builtin (b := .append) (xs := #[(.tmp 43), .tmp 45]) rfl ?_); at_builtin; refine Kd.R_append k34 (w0 := w) w.heap.size rfl (.tmp 43) (.tmp 45) 22 34 (.agg #[(.int .i64 0), (.int .i64 0), (.string ⟨#[]⟩), (.string ⟨#[]⟩), (.bool false)]) 56 rfl Try.underlying22 info34 rfl (by decide) (by omega) u7 x7_2 (⟨x8_2, (rd_T34 l0 x8_2).f1, (rd_T34 l0 x8_2).f2, (rd_T34 l0 x8_2).f3, (rd_T34 l0 x8_2).f4⟩ : S34) [.int .i64 x8_2, .int .i64 ((rd_T34 l0 x8_2).f1), .string ((rd_T34 l0 x8_2).f2), .string ((rd_T34 l0 x8_2).f3), .bool ((rd_T34 l0 x8_2).f4)] (fun k_ => k_ ≠ gb326) (fun _ => False) rfl rfl ?aP (fun _ hk => hk.elim) ?aF ?aO ?aB ?aS ?aL ?_; (case aP => exact k34_mkM _ _ _ (⟨x8_2, (rd_T34 l0 x8_2).f1, (rd_T34 l0 x8_2).f2, (rd_T34 l0 x8_2).f3, (rd_T34 l0 x8_2).f4⟩ : S34)); (case aB => exact (by repeat (first | (with_reducible first | exact HB.out | apply below_alloc | apply pw_below_drewN | apply below_drew1 | refine below_set ?_ GE326.out) | exact HB.out))); (case aF => exact (fun k_ hk => Kd.freshB (g := gb326) (o := .cells #[.int .i64 x8_2, .int .i64 ((rd_T34 l0 x8_2).f1), .string ((rd_T34 l0 x8_2).f2), .string ((rd_T34 l0 x8_2).f3), .bool ((rd_T34 l0 x8_2).f4)] 34 (0, 0)) (by (with_reducible repeat (first | refine blk_drewN ?_ _ | refine blk_drew ?_ | refine blk_alloc ?_ _)); exact BK326.out) k_ hk)); (case aO => exact (by (with_reducible repeat (first | apply Kd.R_alloc | apply Kd.R_drewN | apply Kd.R_drew)); exact Kd.R_mono HO_7.out (fun _ hk => hk.2))); (case aS => exact (below_size (by repeat (first | (with_reducible first | exact HB.out | apply below_alloc | apply pw_below_drewN | apply below_drew1 | refine below_set ?_ GE326.out) | exact HB.out)))); (case aL => have := LMc15.out; omega); intro v329 w20 ho hb hg hat; rw [← Ny328.out] at ho; have n0_ := Aside0.mk (blk_grown (g := gb326) (o := .cells #[.int .i64 x8_2, .int .i64 ((rd_T34 l0 x8_2).f1), .string ((rd_T34 l0 x8_2).f2), .string ((rd_T34 l0 x8_2).f3), .bool ((rd_T34 l0 x8_2).f4)] 34 (0, 0)) (by (with_reducible repeat (first | refine blk_drewN ?_ _ | refine blk_drew ?_ | refine blk_alloc ?_ _)); exact BK326.out) hg (Kd.R_away HO_7.out (fun _ hk => hk.2))); have n1_ := Aside0.mk (hb); have n2_ := Aside0.mk (ho); clear BK326; clear HB; clear HO_7; have BK326 := n0_; have HB := n1_; have HO330 := n2_; clear n0_ n1_ n2_; clear ho hb hg hat)); try go_wp2_with (first | ((with_reducible refine gate_dst (N := 9) rfl ?_); refine box_event ?hg (N := 9) ?hd (cs := #[.int .i64 0, .int .i64 0, .string (⟨#[]⟩ : ByteArray), .string (⟨#[]⟩ : ByteArray), .bool false]) (t := 34) ?hr ?_; (case hd => rfl); (case hg => rfl); (case hr => first | (go_simp; done) | (go_simp; rfl)); intro gb326 hg w16 hbox hb; have n0_ := Aside0.mk (Kd.R_below (Kd.R_elderB (by (with_reducible repeat (first | apply Kd.R_alloc | apply Kd.R_drewN | apply Kd.R_drew)); exact HO_7.out) gb326 (Nat.le_of_eq hg.symm)) hb); have n1_ := Aside0.mk (below_step (by repeat (first | (with_reducible first | exact HB.out | apply below_alloc | apply pw_below_drewN | apply below_drew1) | exact HB.out)) hb); have n2_ := Aside0.mk (hbox); have n3_ := Aside0.mk ((by rw [hg]; exact (below_size (by repeat (first | (with_reducible first | exact HB.out | apply below_alloc | apply pw_below_drewN | apply below_drew1) | exact HB.out))) : w.heap.size ≤ gb326)); have n4_ := Aside0.mk ((by rw [hg]; exact (below_size (by repeat (first | (with_reducible first | exact HB.out | apply below_alloc | apply pw_below_drewN | apply below_drew1) | exact HB.out))) : w.heap.size ≤ gb326)); clear HO_7; clear HB; have HO_7 := n0_; have HB := n1_; have BK326 := n2_; have GW326 := n3_; have GE326 := n4_; clear n0_ n1_ n2_ n3_ n4_; clear hb hbox hg; have hcz17_0 : w16.cell? ⟨gb326, 0, none⟩ = some (.int .i64 0) := (blk_cell BK326.out 0).trans rfl; have hcz17_1 : w16.cell? ⟨gb326, 1, none⟩ = some (.int .i64 0) := (blk_cell BK326.out 1).trans rfl; have hcz17_2 : w16.cell? ⟨gb326, 2, none⟩ = some (.string (⟨#[]⟩ : ByteArray)) := (blk_cell BK326.out 2).trans rfl; have hcz17_3 : w16.cell? ⟨gb326, 3, none⟩ = some (.string (⟨#[]⟩ : ByteArray)) := (blk_cell BK326.out 3).trans rfl; have hcz17_4 : w16.cell? ⟨gb326, 4, none⟩ = some (.bool false) := (blk_cell BK326.out 4).trans rfl; have hfz17_0 := blk_frozen BK326.out 0; have hfz17_1 := blk_frozen BK326.out 1; have hfz17_2 := blk_frozen BK326.out 2; have hfz17_3 := blk_frozen BK326.out 3; have hfz17_4 := blk_frozen BK326.out 4) | (go_at_call 16; (with_reducible refine (cooperageref1_Right.calls x8_2 ((rd_T34 l0 x8_2).f1) ((rd_T34 l0 x8_2).f2) ((rd_T34 l0 x8_2).f3) ((rd_T34 l0 x8_2).f4) true _ A13.out).mono ?_); rintro e w18 ⟨rfl, hb⟩; have n0_ := Aside0.mk (Kd.R_below (by (with_reducible repeat (first | apply Kd.R_alloc | apply Kd.R_drewN | apply Kd.R_drew)); exact (Kd.R_mono (Kd.R_far (p := ⟨gb326, 0, none⟩) (Kd.R_far (p := ⟨gb326, 4, none⟩) (Kd.R_far (p := ⟨gb326, 3, none⟩) (Kd.R_far (p := ⟨gb326, 2, none⟩) (Kd.R_far (p := ⟨gb326, 1, none⟩) (Kd.R_far (p := ⟨gb326, 0, none⟩) (Kd.R_mono HO_7.out (fun k_ hk => (⟨hk, hk.2⟩ : _ ∧ k_ ≠ gb326))) (fun _ hk => hk.2) (.int .i64 ((rd_T34 l0 x8_2).f0))) (fun _ hk => hk.2) (.int .i64 ((rd_T34 l0 x8_2).f1))) (fun _ hk => hk.2) (.string ((rd_T34 l0 x8_2).f2))) (fun _ hk => hk.2) (.string ((rd_T34 l0 x8_2).f3))) (fun _ hk => hk.2) (.bool ((rd_T34 l0 x8_2).f4))) (fun _ hk => hk.2) (.int .i64 x8_2)) (fun _ h_ => h_.1))) hb); have n1_ := Aside0.mk (blk_below (g := gb326) (o := .cells #[.int .i64 x8_2, .int .i64 ((rd_T34 l0 x8_2).f1), .string ((rd_T34 l0 x8_2).f2), .string ((rd_T34 l0 x8_2).f3), .bool ((rd_T34 l0 x8_2).f4)] 34 (0, 0)) (by (with_reducible repeat (first | refine blk_drewN ?_ _ | refine blk_drew ?_ | refine blk_alloc ?_ _)); refine blk_put (cs := #[.int .i64 ((rd_T34 l0 x8_2).f0), .int .i64 ((rd_T34 l0 x8_2).f1), .string ((rd_T34 l0 x8_2).f2), .string ((rd_T34 l0 x8_2).f3), .bool ((rd_T34 l0 x8_2).f4)]) ?_ 0 _ rfl; (with_reducible repeat (first | refine blk_drewN ?_ _ | refine blk_drew ?_ | refine blk_alloc ?_ _)); refine blk_put (cs := #[.int .i64 ((rd_T34 l0 x8_2).f0), .int .i64 ((rd_T34 l0 x8_2).f1), .string ((rd_T34 l0 x8_2).f2), .string ((rd_T34 l0 x8_2).f3), .bool false]) ?_ 4 _ rfl; (with_reducible repeat (first | refine blk_drewN ?_ _ | refine blk_drew ?_ | refine blk_alloc ?_ _)); refine blk_put (cs := #[.int .i64 ((rd_T34 l0 x8_2).f0), .int .i64 ((rd_T34 l0 x8_2).f1), .string ((rd_T34 l0 x8_2).f2), .string (⟨#[]⟩ : ByteArray), .bool false]) ?_ 3 _ rfl; (with_reducible repeat (first | refine blk_drewN ?_ _ | refine blk_drew ?_ | refine blk_alloc ?_ _)); refine blk_put (cs := #[.int .i64 ((rd_T34 l0 x8_2).f0), .int .i64 ((rd_T34 l0 x8_2).f1), .string (⟨#[]⟩ : ByteArray), .string (⟨#[]⟩ : ByteArray), .bool false]) ?_ 2 _ rfl; (with_reducible repeat (first | refine blk_drewN ?_ _ | refine blk_drew ?_ | refine blk_alloc ?_ _)); refine blk_put (cs := #[.int .i64 ((rd_T34 l0 x8_2).f0), .int .i64 0, .string (⟨#[]⟩ : ByteArray), .string (⟨#[]⟩ : ByteArray), .bool false]) ?_ 1 _ rfl; (with_reducible repeat (first | refine blk_drewN ?_ _ | refine blk_drew ?_ | refine blk_alloc ?_ _)); refine blk_put (cs := #[.int .i64 0, .int .i64 0, .string (⟨#[]⟩ : ByteArray), .string (⟨#[]⟩ : ByteArray), .bool false]) ?_ 0 _ rfl; (with_reducible repeat (first | refine blk_drewN ?_ _ | refine blk_drew ?_ | refine blk_alloc ?_ _)); exact BK326.out) hb); have n2_ := Aside0.mk (below_step (by repeat (first | (with_reducible first | exact HB.out | apply below_alloc | apply pw_below_drewN | apply below_drew1 | refine below_set ?_ GE326.out) | exact HB.out)) hb); clear HO_7; clear BK326; clear HB; have HO_7 := n0_; have BK326 := n1_; have HB := n2_; clear n0_ n1_ n2_; (try clear hb); (try clear hb2); (try clear hk); (try clear hi); have hcz19_0 : w18.cell? ⟨gb326, 0, none⟩ = some (.int .i64 x8_2) := (blk_cell BK326.out 0).trans rfl; have hcz19_1 : w18.cell? ⟨gb326, 1, none⟩ = some (.int .i64 ((rd_T34 l0 x8_2).f1)) := (blk_cell BK326.out 1).trans rfl; have hcz19_2 : w18.cell? ⟨gb326, 2, none⟩ = some (.string ((rd_T34 l0 x8_2).f2)) := (blk_cell BK326.out 2).trans rfl; have hcz19_3 : w18.cell? ⟨gb326, 3, none⟩ = some (.string ((rd_T34 l0 x8_2).f3)) := (blk_cell BK326.out 3).trans rfl; have hcz19_4 : w18.cell? ⟨gb326, 4, none⟩ = some (.bool ((rd_T34 l0 x8_2).f4)) := (blk_cell BK326.out 4).trans rfl; have hfz19_0 := blk_frozen BK326.out 0; have hfz19_1 := blk_frozen BK326.out 1; have hfz19_2 := blk_frozen BK326.out 2; have hfz19_3 := blk_frozen BK326.out 3; have hfz19_4 := blk_frozen BK326.out 4) | ((with_reducible refine gate_builtin (b := .append) (xs := #[(.tmp 43), .tmp 45]) rfl ?_); at_builtin; refine Kd.R_append k34 (w0 := w) w.heap.size rfl (.tmp 43) (.tmp 45) 22 34 (.agg #[(.int .i64 0), (.int .i64 0), (.string ⟨#[]⟩), (.string ⟨#[]⟩), (.bool false)]) 56 rfl Try.underlying22 info34 rfl (by decide) (by omega) u7 x7_2 (⟨x8_2, (rd_T34 l0 x8_2).f1, (rd_T34 l0 x8_2).f2, (rd_T34 l0 x8_2).f3, (rd_T34 l0 x8_2).f4⟩ : S34) [.int .i64 x8_2, .int .i64 ((rd_T34 l0 x8_2).f1), .string ((rd_T34 l0 x8_2).f2), .string ((rd_T34 l0 x8_2).f3), .bool ((rd_T34 l0 x8_2).f4)] (fun k_ => k_ ≠ gb326) (fun _ => False) rfl rfl ?aP (fun _ hk => hk.elim) ?aF ?aO ?aB ?aS ?aL ?_; (case aP => exact k34_mkM _ _ _ (⟨x8_2, (rd_T34 l0 x8_2).f1, (rd_T34 l0 x8_2).f2, (rd_T34 l0 x8_2).f3, (rd_T34 l0 x8_2).f4⟩ : S34)); (case aB => exact (by repeat (first | (with_reducible first | exact HB.out | apply below_alloc | apply pw_below_drewN | apply below_drew1 | refine below_set ?_ GE326.out) | exact HB.out))); (case aF => exact (fun k_ hk => Kd.freshB (g := gb326) (o := .cells #[.int .i64 x8_2, .int .i64 ((rd_T34 l0 x8_2).f1), .string ((rd_T34 l0 x8_2).f2), .string ((rd_T34 l0 x8_2).f3), .bool ((rd_T34 l0 x8_2).f4)] 34 (0, 0)) (by (with_reducible repeat (first | refine blk_drewN ?_ _ | refine blk_drew ?_ | refine blk_alloc ?_ _)); exact BK326.out) k_ hk)); (case aO => exact (by (with_reducible repeat (first | apply Kd.R_alloc | apply Kd.R_drewN | apply Kd.R_drew)); exact Kd.R_mono HO_7.out (fun _ hk => hk.2))); (case aS => exact (below_size (by repeat (first | (with_reducible first | exact HB.out | apply below_alloc | apply pw_below_drewN | apply below_drew1 | refine below_set ?_ GE326.out) | exact HB.out)))); (case aL => have := LMc15.out; omega); intro v329 w20 ho hb hg hat; rw [← Ny328.out] at ho; have n0_ := Aside0.mk (blk_grown (g := gb326) (o := .cells #[.int .i64 x8_2, .int .i64 ((rd_T34 l0 x8_2).f1), .string ((rd_T34 l0 x8_2).f2), .string ((rd_T34 l0 x8_2).f3), .bool ((rd_T34 l0 x8_2).f4)] 34 (0, 0)) (by (with_reducible repeat (first | refine blk_drewN ?_ _ | refine blk_drew ?_ | refine blk_alloc ?_ _)); exact BK326.out) hg (Kd.R_away HO_7.out (fun _ hk => hk.2))); have n1_ := Aside0.mk (hb); have n2_ := Aside0.mk (ho); clear BK326; clear HB; clear HO_7; have BK326 := n0_; have HB := n1_; have HO330 := n2_; clear n0_ n1_ n2_; clear ho hb hg hat)))
                    go_roundg k2
                    case measure => have := HJ4.out; have := HK2.out; omega
                    case rel => exact ⟨(y328), (wrap64 (x8_2 + 1)), (by first | rfl | (simp; done) | (simp [*]; done)), H', ⟨by have := HJ4.out; have := HK2.out; omega⟩, ⟨by (with_reducible repeat (first | apply Kd.R_alloc | apply Kd.R_drewN | apply Kd.R_drew)); exact Kd.R_mono HO330.out (fun _ hk => trivial)⟩, ⟨by repeat (first | (with_reducible first | exact HB.out | apply below_alloc | apply pw_below_drewN | apply below_drew1 | refine below_set ?_ GE326.out) | exact HB.out)⟩⟩
                  · rw [if_neg c15] at H
                    exact absurd H (by simp)
                · replace c14 := Bool.eq_false_iff.mpr c14
                  subst c14
                  have H1 : (cooperagelaw9_IndexFew.l0 k2 l0 a1 x7_2 (wrap64 (x8_2 + 1))) = some r := by rw [if_neg (show ¬ (false = true) by decide)] at H; exact H
                  clear H
                  have H := H1
                  clear H1
                  have H' := Aside0.mk H
                  clear H
                  have p325 : 0 ≤ (x8_2 : Int) := of_decide_eq_true (by first | (with_reducible assumption) | assumption)
                  have q325 : x8_2 < (l0.length : Int) := of_decide_eq_true (by first | (with_reducible assumption) | assumption)
                  obtain ⟨ad325, e325, hx325_0, hx325_1, hx325_2, hx325_3, hx325_4⟩ := at_T34 HR0.out x8_2 p325 q325
                  cases e325
                  replace hx325_0 := (HB.out.cell (World.block_lt_of_cell? w _ hx325_0)).trans hx325_0
                  replace hx325_1 := (HB.out.cell (World.block_lt_of_cell? w _ hx325_1)).trans hx325_1
                  replace hx325_2 := (HB.out.cell (World.block_lt_of_cell? w _ hx325_2)).trans hx325_2
                  replace hx325_3 := (HB.out.cell (World.block_lt_of_cell? w _ hx325_3)).trans hx325_3
                  replace hx325_4 := (HB.out.cell (World.block_lt_of_cell? w _ hx325_4)).trans hx325_4
                  replace p325 := eq_true p325
                  replace q325 := eq_true q325
                  go_wp2_with (first | ((with_reducible refine gate_dst (N := 9) rfl ?_); refine box_event ?hg (N := 9) ?hd (cs := #[.int .i64 0, .int .i64 0, .string (⟨#[]⟩ : ByteArray), .string (⟨#[]⟩ : ByteArray), .bool false]) (t := 34) ?hr ?_; (case hd => rfl); (case hg => rfl); (case hr => first | (go_simp; done) | (go_simp; rfl)); intro gb326 hg w21 hbox hb; have n0_ := Aside0.mk (Kd.R_below (Kd.R_elderB (by (with_reducible repeat (first | apply Kd.R_alloc | apply Kd.R_drewN | apply Kd.R_drew)); exact HO_7.out) gb326 (Nat.le_of_eq hg.symm)) hb); have n1_ := Aside0.mk (below_step (by repeat (first | (with_reducible first | exact HB.out | apply below_alloc | apply pw_below_drewN | apply below_drew1) | exact HB.out)) hb); have n2_ := Aside0.mk (hbox); have n3_ := Aside0.mk ((by rw [hg]; exact (below_size (by repeat (first | (with_reducible first | exact HB.out | apply below_alloc | apply pw_below_drewN | apply below_drew1) | exact HB.out))) : w.heap.size ≤ gb326)); have n4_ := Aside0.mk ((by rw [hg]; exact (below_size (by repeat (first | (with_reducible first | exact HB.out | apply below_alloc | apply pw_below_drewN | apply below_drew1) | exact HB.out))) : w.heap.size ≤ gb326)); clear HO_7; clear HB; have HO_7 := n0_; have HB := n1_; have BK326 := n2_; have GW326 := n3_; have GE326 := n4_; clear n0_ n1_ n2_ n3_ n4_; clear hb hbox hg; have hcz22_0 : w21.cell? ⟨gb326, 0, none⟩ = some (.int .i64 0) := (blk_cell BK326.out 0).trans rfl; have hcz22_1 : w21.cell? ⟨gb326, 1, none⟩ = some (.int .i64 0) := (blk_cell BK326.out 1).trans rfl; have hcz22_2 : w21.cell? ⟨gb326, 2, none⟩ = some (.string (⟨#[]⟩ : ByteArray)) := (blk_cell BK326.out 2).trans rfl; have hcz22_3 : w21.cell? ⟨gb326, 3, none⟩ = some (.string (⟨#[]⟩ : ByteArray)) := (blk_cell BK326.out 3).trans rfl; have hcz22_4 : w21.cell? ⟨gb326, 4, none⟩ = some (.bool false) := (blk_cell BK326.out 4).trans rfl; have hfz22_0 := blk_frozen BK326.out 0; have hfz22_1 := blk_frozen BK326.out 1; have hfz22_2 := blk_frozen BK326.out 2; have hfz22_3 := blk_frozen BK326.out 3; have hfz22_4 := blk_frozen BK326.out 4) | (go_at_call 16; (with_reducible refine (cooperageref1_Right.calls x8_2 ((rd_T34 l0 x8_2).f1) ((rd_T34 l0 x8_2).f2) ((rd_T34 l0 x8_2).f3) ((rd_T34 l0 x8_2).f4) false _ A13.out).mono ?_); rintro e w23 ⟨rfl, hb⟩; have n0_ := Aside0.mk (Kd.R_below (by (with_reducible repeat (first | apply Kd.R_alloc | apply Kd.R_drewN | apply Kd.R_drew)); exact (Kd.R_mono (Kd.R_far (p := ⟨gb326, 0, none⟩) (Kd.R_far (p := ⟨gb326, 4, none⟩) (Kd.R_far (p := ⟨gb326, 3, none⟩) (Kd.R_far (p := ⟨gb326, 2, none⟩) (Kd.R_far (p := ⟨gb326, 1, none⟩) (Kd.R_far (p := ⟨gb326, 0, none⟩) (Kd.R_mono HO_7.out (fun k_ hk => (⟨hk, hk.2⟩ : _ ∧ k_ ≠ gb326))) (fun _ hk => hk.2) (.int .i64 ((rd_T34 l0 x8_2).f0))) (fun _ hk => hk.2) (.int .i64 ((rd_T34 l0 x8_2).f1))) (fun _ hk => hk.2) (.string ((rd_T34 l0 x8_2).f2))) (fun _ hk => hk.2) (.string ((rd_T34 l0 x8_2).f3))) (fun _ hk => hk.2) (.bool ((rd_T34 l0 x8_2).f4))) (fun _ hk => hk.2) (.int .i64 x8_2)) (fun _ h_ => h_.1))) hb); have n1_ := Aside0.mk (blk_below (g := gb326) (o := .cells #[.int .i64 x8_2, .int .i64 ((rd_T34 l0 x8_2).f1), .string ((rd_T34 l0 x8_2).f2), .string ((rd_T34 l0 x8_2).f3), .bool ((rd_T34 l0 x8_2).f4)] 34 (0, 0)) (by (with_reducible repeat (first | refine blk_drewN ?_ _ | refine blk_drew ?_ | refine blk_alloc ?_ _)); refine blk_put (cs := #[.int .i64 ((rd_T34 l0 x8_2).f0), .int .i64 ((rd_T34 l0 x8_2).f1), .string ((rd_T34 l0 x8_2).f2), .string ((rd_T34 l0 x8_2).f3), .bool ((rd_T34 l0 x8_2).f4)]) ?_ 0 _ rfl; (with_reducible repeat (first | refine blk_drewN ?_ _ | refine blk_drew ?_ | refine blk_alloc ?_ _)); refine blk_put (cs := #[.int .i64 ((rd_T34 l0 x8_2).f0), .int .i64 ((rd_T34 l0 x8_2).f1), .string ((rd_T34 l0 x8_2).f2), .string ((rd_T34 l0 x8_2).f3), .bool false]) ?_ 4 _ rfl; (with_reducible repeat (first | refine blk_drewN ?_ _ | refine blk_drew ?_ | refine blk_alloc ?_ _)); refine blk_put (cs := #[.int .i64 ((rd_T34 l0 x8_2).f0), .int .i64 ((rd_T34 l0 x8_2).f1), .string ((rd_T34 l0 x8_2).f2), .string (⟨#[]⟩ : ByteArray), .bool false]) ?_ 3 _ rfl; (with_reducible repeat (first | refine blk_drewN ?_ _ | refine blk_drew ?_ | refine blk_alloc ?_ _)); refine blk_put (cs := #[.int .i64 ((rd_T34 l0 x8_2).f0), .int .i64 ((rd_T34 l0 x8_2).f1), .string (⟨#[]⟩ : ByteArray), .string (⟨#[]⟩ : ByteArray), .bool false]) ?_ 2 _ rfl; (with_reducible repeat (first | refine blk_drewN ?_ _ | refine blk_drew ?_ | refine blk_alloc ?_ _)); refine blk_put (cs := #[.int .i64 ((rd_T34 l0 x8_2).f0), .int .i64 0, .string (⟨#[]⟩ : ByteArray), .string (⟨#[]⟩ : ByteArray), .bool false]) ?_ 1 _ rfl; (with_reducible repeat (first | refine blk_drewN ?_ _ | refine blk_drew ?_ | refine blk_alloc ?_ _)); refine blk_put (cs := #[.int .i64 0, .int .i64 0, .string (⟨#[]⟩ : ByteArray), .string (⟨#[]⟩ : ByteArray), .bool false]) ?_ 0 _ rfl; (with_reducible repeat (first | refine blk_drewN ?_ _ | refine blk_drew ?_ | refine blk_alloc ?_ _)); exact BK326.out) hb); have n2_ := Aside0.mk (below_step (by repeat (first | (with_reducible first | exact HB.out | apply below_alloc | apply pw_below_drewN | apply below_drew1 | refine below_set ?_ GE326.out) | exact HB.out)) hb); clear HO_7; clear BK326; clear HB; have HO_7 := n0_; have BK326 := n1_; have HB := n2_; clear n0_ n1_ n2_; (try clear hb); (try clear hb2); (try clear hk); (try clear hi)))
                  repeat (go_quiet (first | ((with_reducible refine gate_dst (N := 9) rfl ?_); refine box_event ?hg (N := 9) ?hd (cs := #[.int .i64 0, .int .i64 0, .string (⟨#[]⟩ : ByteArray), .string (⟨#[]⟩ : ByteArray), .bool false]) (t := 34) ?hr ?_; (case hd => rfl); (case hg => rfl); (case hr => first | (go_simp; done) | (go_simp; rfl)); intro gb326 hg w21 hbox hb; have n0_ := Aside0.mk (Kd.R_below (Kd.R_elderB (by (with_reducible repeat (first | apply Kd.R_alloc | apply Kd.R_drewN | apply Kd.R_drew)); exact HO_7.out) gb326 (Nat.le_of_eq hg.symm)) hb); have n1_ := Aside0.mk (below_step (by repeat (first | (with_reducible first | exact HB.out | apply below_alloc | apply pw_below_drewN | apply below_drew1) | exact HB.out)) hb); have n2_ := Aside0.mk (hbox); have n3_ := Aside0.mk ((by rw [hg]; exact (below_size (by repeat (first | (with_reducible first | exact HB.out | apply below_alloc | apply pw_below_drewN | apply below_drew1) | exact HB.out))) : w.heap.size ≤ gb326)); have n4_ := Aside0.mk ((by rw [hg]; exact (below_size (by repeat (first | (with_reducible first | exact HB.out | apply below_alloc | apply pw_below_drewN | apply below_drew1) | exact HB.out))) : w.heap.size ≤ gb326)); clear HO_7; clear HB; have HO_7 := n0_; have HB := n1_; have BK326 := n2_; have GW326 := n3_; have GE326 := n4_; clear n0_ n1_ n2_ n3_ n4_; clear hb hbox hg; have hcz22_0 : w21.cell? ⟨gb326, 0, none⟩ = some (.int .i64 0) := (blk_cell BK326.out 0).trans rfl; have hcz22_1 : w21.cell? ⟨gb326, 1, none⟩ = some (.int .i64 0) := (blk_cell BK326.out 1).trans rfl; have hcz22_2 : w21.cell? ⟨gb326, 2, none⟩ = some (.string (⟨#[]⟩ : ByteArray)) := (blk_cell BK326.out 2).trans rfl; have hcz22_3 : w21.cell? ⟨gb326, 3, none⟩ = some (.string (⟨#[]⟩ : ByteArray)) := (blk_cell BK326.out 3).trans rfl; have hcz22_4 : w21.cell? ⟨gb326, 4, none⟩ = some (.bool false) := (blk_cell BK326.out 4).trans rfl; have hfz22_0 := blk_frozen BK326.out 0; have hfz22_1 := blk_frozen BK326.out 1; have hfz22_2 := blk_frozen BK326.out 2; have hfz22_3 := blk_frozen BK326.out 3; have hfz22_4 := blk_frozen BK326.out 4) | (go_at_call 16; (with_reducible refine (cooperageref1_Right.calls x8_2 ((rd_T34 l0 x8_2).f1) ((rd_T34 l0 x8_2).f2) ((rd_T34 l0 x8_2).f3) ((rd_T34 l0 x8_2).f4) false _ A13.out).mono ?_); rintro e w23 ⟨rfl, hb⟩; have n0_ := Aside0.mk (Kd.R_below (by (with_reducible repeat (first | apply Kd.R_alloc | apply Kd.R_drewN | apply Kd.R_drew)); exact (Kd.R_mono (Kd.R_far (p := ⟨gb326, 0, none⟩) (Kd.R_far (p := ⟨gb326, 4, none⟩) (Kd.R_far (p := ⟨gb326, 3, none⟩) (Kd.R_far (p := ⟨gb326, 2, none⟩) (Kd.R_far (p := ⟨gb326, 1, none⟩) (Kd.R_far (p := ⟨gb326, 0, none⟩) (Kd.R_mono HO_7.out (fun k_ hk => (⟨hk, hk.2⟩ : _ ∧ k_ ≠ gb326))) (fun _ hk => hk.2) (.int .i64 ((rd_T34 l0 x8_2).f0))) (fun _ hk => hk.2) (.int .i64 ((rd_T34 l0 x8_2).f1))) (fun _ hk => hk.2) (.string ((rd_T34 l0 x8_2).f2))) (fun _ hk => hk.2) (.string ((rd_T34 l0 x8_2).f3))) (fun _ hk => hk.2) (.bool ((rd_T34 l0 x8_2).f4))) (fun _ hk => hk.2) (.int .i64 x8_2)) (fun _ h_ => h_.1))) hb); have n1_ := Aside0.mk (blk_below (g := gb326) (o := .cells #[.int .i64 x8_2, .int .i64 ((rd_T34 l0 x8_2).f1), .string ((rd_T34 l0 x8_2).f2), .string ((rd_T34 l0 x8_2).f3), .bool ((rd_T34 l0 x8_2).f4)] 34 (0, 0)) (by (with_reducible repeat (first | refine blk_drewN ?_ _ | refine blk_drew ?_ | refine blk_alloc ?_ _)); refine blk_put (cs := #[.int .i64 ((rd_T34 l0 x8_2).f0), .int .i64 ((rd_T34 l0 x8_2).f1), .string ((rd_T34 l0 x8_2).f2), .string ((rd_T34 l0 x8_2).f3), .bool ((rd_T34 l0 x8_2).f4)]) ?_ 0 _ rfl; (with_reducible repeat (first | refine blk_drewN ?_ _ | refine blk_drew ?_ | refine blk_alloc ?_ _)); refine blk_put (cs := #[.int .i64 ((rd_T34 l0 x8_2).f0), .int .i64 ((rd_T34 l0 x8_2).f1), .string ((rd_T34 l0 x8_2).f2), .string ((rd_T34 l0 x8_2).f3), .bool false]) ?_ 4 _ rfl; (with_reducible repeat (first | refine blk_drewN ?_ _ | refine blk_drew ?_ | refine blk_alloc ?_ _)); refine blk_put (cs := #[.int .i64 ((rd_T34 l0 x8_2).f0), .int .i64 ((rd_T34 l0 x8_2).f1), .string ((rd_T34 l0 x8_2).f2), .string (⟨#[]⟩ : ByteArray), .bool false]) ?_ 3 _ rfl; (with_reducible repeat (first | refine blk_drewN ?_ _ | refine blk_drew ?_ | refine blk_alloc ?_ _)); refine blk_put (cs := #[.int .i64 ((rd_T34 l0 x8_2).f0), .int .i64 ((rd_T34 l0 x8_2).f1), .string (⟨#[]⟩ : ByteArray), .string (⟨#[]⟩ : ByteArray), .bool false]) ?_ 2 _ rfl; (with_reducible repeat (first | refine blk_drewN ?_ _ | refine blk_drew ?_ | refine blk_alloc ?_ _)); refine blk_put (cs := #[.int .i64 ((rd_T34 l0 x8_2).f0), .int .i64 0, .string (⟨#[]⟩ : ByteArray), .string (⟨#[]⟩ : ByteArray), .bool false]) ?_ 1 _ rfl; (with_reducible repeat (first | refine blk_drewN ?_ _ | refine blk_drew ?_ | refine blk_alloc ?_ _)); refine blk_put (cs := #[.int .i64 0, .int .i64 0, .string (⟨#[]⟩ : ByteArray), .string (⟨#[]⟩ : ByteArray), .bool false]) ?_ 0 _ rfl; (with_reducible repeat (first | refine blk_drewN ?_ _ | refine blk_drew ?_ | refine blk_alloc ?_ _)); exact BK326.out) hb); have n2_ := Aside0.mk (below_step (by repeat (first | (with_reducible first | exact HB.out | apply below_alloc | apply pw_below_drewN | apply below_drew1 | refine below_set ?_ GE326.out) | exact HB.out)) hb); clear HO_7; clear BK326; clear HB; have HO_7 := n0_; have BK326 := n1_; have HB := n2_; clear n0_ n1_ n2_; (try clear hb); (try clear hb2); (try clear hk); (try clear hi))); try go_wp2_with (first | ((with_reducible refine gate_dst (N := 9) rfl ?_); refine box_event ?hg (N := 9) ?hd (cs := #[.int .i64 0, .int .i64 0, .string (⟨#[]⟩ : ByteArray), .string (⟨#[]⟩ : ByteArray), .bool false]) (t := 34) ?hr ?_; (case hd => rfl); (case hg => rfl); (case hr => first | (go_simp; done) | (go_simp; rfl)); intro gb326 hg w21 hbox hb; have n0_ := Aside0.mk (Kd.R_below (Kd.R_elderB (by (with_reducible repeat (first | apply Kd.R_alloc | apply Kd.R_drewN | apply Kd.R_drew)); exact HO_7.out) gb326 (Nat.le_of_eq hg.symm)) hb); have n1_ := Aside0.mk (below_step (by repeat (first | (with_reducible first | exact HB.out | apply below_alloc | apply pw_below_drewN | apply below_drew1) | exact HB.out)) hb); have n2_ := Aside0.mk (hbox); have n3_ := Aside0.mk ((by rw [hg]; exact (below_size (by repeat (first | (with_reducible first | exact HB.out | apply below_alloc | apply pw_below_drewN | apply below_drew1) | exact HB.out))) : w.heap.size ≤ gb326)); have n4_ := Aside0.mk ((by rw [hg]; exact (below_size (by repeat (first | (with_reducible first | exact HB.out | apply below_alloc | apply pw_below_drewN | apply below_drew1) | exact HB.out))) : w.heap.size ≤ gb326)); clear HO_7; clear HB; have HO_7 := n0_; have HB := n1_; have BK326 := n2_; have GW326 := n3_; have GE326 := n4_; clear n0_ n1_ n2_ n3_ n4_; clear hb hbox hg; have hcz22_0 : w21.cell? ⟨gb326, 0, none⟩ = some (.int .i64 0) := (blk_cell BK326.out 0).trans rfl; have hcz22_1 : w21.cell? ⟨gb326, 1, none⟩ = some (.int .i64 0) := (blk_cell BK326.out 1).trans rfl; have hcz22_2 : w21.cell? ⟨gb326, 2, none⟩ = some (.string (⟨#[]⟩ : ByteArray)) := (blk_cell BK326.out 2).trans rfl; have hcz22_3 : w21.cell? ⟨gb326, 3, none⟩ = some (.string (⟨#[]⟩ : ByteArray)) := (blk_cell BK326.out 3).trans rfl; have hcz22_4 : w21.cell? ⟨gb326, 4, none⟩ = some (.bool false) := (blk_cell BK326.out 4).trans rfl; have hfz22_0 := blk_frozen BK326.out 0; have hfz22_1 := blk_frozen BK326.out 1; have hfz22_2 := blk_frozen BK326.out 2; have hfz22_3 := blk_frozen BK326.out 3; have hfz22_4 := blk_frozen BK326.out 4) | (go_at_call 16; (with_reducible refine (cooperageref1_Right.calls x8_2 ((rd_T34 l0 x8_2).f1) ((rd_T34 l0 x8_2).f2) ((rd_T34 l0 x8_2).f3) ((rd_T34 l0 x8_2).f4) false _ A13.out).mono ?_); rintro e w23 ⟨rfl, hb⟩; have n0_ := Aside0.mk (Kd.R_below (by (with_reducible repeat (first | apply Kd.R_alloc | apply Kd.R_drewN | apply Kd.R_drew)); exact (Kd.R_mono (Kd.R_far (p := ⟨gb326, 0, none⟩) (Kd.R_far (p := ⟨gb326, 4, none⟩) (Kd.R_far (p := ⟨gb326, 3, none⟩) (Kd.R_far (p := ⟨gb326, 2, none⟩) (Kd.R_far (p := ⟨gb326, 1, none⟩) (Kd.R_far (p := ⟨gb326, 0, none⟩) (Kd.R_mono HO_7.out (fun k_ hk => (⟨hk, hk.2⟩ : _ ∧ k_ ≠ gb326))) (fun _ hk => hk.2) (.int .i64 ((rd_T34 l0 x8_2).f0))) (fun _ hk => hk.2) (.int .i64 ((rd_T34 l0 x8_2).f1))) (fun _ hk => hk.2) (.string ((rd_T34 l0 x8_2).f2))) (fun _ hk => hk.2) (.string ((rd_T34 l0 x8_2).f3))) (fun _ hk => hk.2) (.bool ((rd_T34 l0 x8_2).f4))) (fun _ hk => hk.2) (.int .i64 x8_2)) (fun _ h_ => h_.1))) hb); have n1_ := Aside0.mk (blk_below (g := gb326) (o := .cells #[.int .i64 x8_2, .int .i64 ((rd_T34 l0 x8_2).f1), .string ((rd_T34 l0 x8_2).f2), .string ((rd_T34 l0 x8_2).f3), .bool ((rd_T34 l0 x8_2).f4)] 34 (0, 0)) (by (with_reducible repeat (first | refine blk_drewN ?_ _ | refine blk_drew ?_ | refine blk_alloc ?_ _)); refine blk_put (cs := #[.int .i64 ((rd_T34 l0 x8_2).f0), .int .i64 ((rd_T34 l0 x8_2).f1), .string ((rd_T34 l0 x8_2).f2), .string ((rd_T34 l0 x8_2).f3), .bool ((rd_T34 l0 x8_2).f4)]) ?_ 0 _ rfl; (with_reducible repeat (first | refine blk_drewN ?_ _ | refine blk_drew ?_ | refine blk_alloc ?_ _)); refine blk_put (cs := #[.int .i64 ((rd_T34 l0 x8_2).f0), .int .i64 ((rd_T34 l0 x8_2).f1), .string ((rd_T34 l0 x8_2).f2), .string ((rd_T34 l0 x8_2).f3), .bool false]) ?_ 4 _ rfl; (with_reducible repeat (first | refine blk_drewN ?_ _ | refine blk_drew ?_ | refine blk_alloc ?_ _)); refine blk_put (cs := #[.int .i64 ((rd_T34 l0 x8_2).f0), .int .i64 ((rd_T34 l0 x8_2).f1), .string ((rd_T34 l0 x8_2).f2), .string (⟨#[]⟩ : ByteArray), .bool false]) ?_ 3 _ rfl; (with_reducible repeat (first | refine blk_drewN ?_ _ | refine blk_drew ?_ | refine blk_alloc ?_ _)); refine blk_put (cs := #[.int .i64 ((rd_T34 l0 x8_2).f0), .int .i64 ((rd_T34 l0 x8_2).f1), .string (⟨#[]⟩ : ByteArray), .string (⟨#[]⟩ : ByteArray), .bool false]) ?_ 2 _ rfl; (with_reducible repeat (first | refine blk_drewN ?_ _ | refine blk_drew ?_ | refine blk_alloc ?_ _)); refine blk_put (cs := #[.int .i64 ((rd_T34 l0 x8_2).f0), .int .i64 0, .string (⟨#[]⟩ : ByteArray), .string (⟨#[]⟩ : ByteArray), .bool false]) ?_ 1 _ rfl; (with_reducible repeat (first | refine blk_drewN ?_ _ | refine blk_drew ?_ | refine blk_alloc ?_ _)); refine blk_put (cs := #[.int .i64 0, .int .i64 0, .string (⟨#[]⟩ : ByteArray), .string (⟨#[]⟩ : ByteArray), .bool false]) ?_ 0 _ rfl; (with_reducible repeat (first | refine blk_drewN ?_ _ | refine blk_drew ?_ | refine blk_alloc ?_ _)); exact BK326.out) hb); have n2_ := Aside0.mk (below_step (by repeat (first | (with_reducible first | exact HB.out | apply below_alloc | apply pw_below_drewN | apply below_drew1 | refine below_set ?_ GE326.out) | exact HB.out)) hb); clear HO_7; clear BK326; clear HB; have HO_7 := n0_; have BK326 := n1_; have HB := n2_; clear n0_ n1_ n2_; (try clear hb); (try clear hb2); (try clear hk); (try clear hi))))
                  go_roundg k2
                  case measure => have := HJ4.out; have := HK2.out; omega
                  case rel => exact ⟨(x7_2), (wrap64 (x8_2 + 1)), (by first | rfl | (simp; done) | (simp [*]; done)), H', ⟨by have := HJ4.out; have := HK2.out; omega⟩, ⟨by (with_reducible repeat (first | apply Kd.R_alloc | apply Kd.R_drewN | apply Kd.R_drew)); exact Kd.R_mono HO_7.out (fun _ hk => trivial)⟩, ⟨by repeat (first | (with_reducible first | exact HB.out | apply below_alloc | apply pw_below_drewN | apply below_drew1 | refine below_set ?_ GE326.out) | exact HB.out)⟩⟩
              · rw [if_neg c12] at H
                exact absurd H (by simp)
            · rw [if_neg c11] at H
              have c11b0 : decide (x8_2 < (l0.length : Int)) = false := decide_eq_false c11
              clear c11
              replace H := Option.bind_eq_some_iff.mp H
              obtain ⟨t331, A240, H⟩ := H
              replace H : (if a1 = 0 then (none) else (if (t331.length : Int) = (wrap64 (Int.tdiv (wrap64 ((wrap64 ((x7_2.length : Int) + a1)) - 1)) a1)) then (cooperagelaw9_IndexFew.l1 k2 a1 x7_2 t331 0) else (some false))) = some r := H
              have A24 := Aside0.mk A240
              clear A240
              by_cases c25 : a1 = 0
              · rw [if_pos c25] at H
                exact absurd H (by simp)
              · rw [if_neg c25] at H
                have c25b0 : (a1 == 0) = false := beq_eq_false_iff_ne.mpr c25
                have c25b1 : (a1 != 0) = true := bne_iff_ne.mpr c25
                by_cases c26 : (t331.length : Int) = (wrap64 (Int.tdiv (wrap64 ((wrap64 ((x7_2.length : Int) + a1)) - 1)) a1))
                · rw [if_pos c26] at H
                  have c26b0 : ((t331.length : Int) == (wrap64 (Int.tdiv (wrap64 ((wrap64 ((x7_2.length : Int) + a1)) - 1)) a1))) = true := beq_iff_eq.mpr c26
                  have c26b1 : ((t331.length : Int) != (wrap64 (Int.tdiv (wrap64 ((wrap64 ((x7_2.length : Int) + a1)) - 1)) a1))) = false := bne_eq_false_iff_eq.mpr c26
                  clear c26
                  have H' := Aside0.mk H
                  clear H
                  obtain ⟨Ao27, co27, eo27⟩ := Kd.R_slice HO_7.out
                  subst eo27
                  go_wp2_with (first | (go_at_call 14; (with_reducible refine (index_Make.calls k2 _ _ x7_2 a1 t331 _ ?side1 ?side2 A24.out).mono ?_); (case side1 => repeat (first | exact (Kd.R_reads' HO_7.out).2.2 | (with_reducible refine Kd.C_alloc ?_ _) | (with_reducible refine Kd.C_drewN ?_ _) | (with_reducible refine Kd.C_drew ?_))); (case side2 => exact (Kd.R_reads' HO_7.out).2.1); rintro e w28 ⟨v332, rfl, ho0, hb⟩; have n0_ := Aside0.mk (Kd.R_below (by (with_reducible repeat (first | apply Kd.R_alloc | apply Kd.R_drewN | apply Kd.R_drew)); exact HO_7.out) hb); have n1_ := Aside0.mk (Kd.R_lower ho0 (below_size (by repeat (first | (with_reducible first | exact HB.out | apply below_alloc | apply pw_below_drewN | apply below_drew1) | exact HB.out)))); have n2_ := Aside0.mk (below_step (by repeat (first | (with_reducible first | exact HB.out | apply below_alloc | apply pw_below_drewN | apply below_drew1) | exact HB.out)) hb); clear HO_7; clear HB; have HO_7 := n0_; have HO333 := n1_; have HB := n2_; clear n0_ n1_ n2_; (try clear hb); (try clear hb2); (try clear hk); (try clear hi); (try clear ho0); obtain ⟨Ao29, co29, eo29⟩ := Kd.R_slice HO333.out; subst eo29))
                  repeat (go_quiet (first | (go_at_call 14; (with_reducible refine (index_Make.calls k2 _ _ x7_2 a1 t331 _ ?side1 ?side2 A24.out).mono ?_); (case side1 => repeat (first | exact (Kd.R_reads' HO_7.out).2.2 | (with_reducible refine Kd.C_alloc ?_ _) | (with_reducible refine Kd.C_drewN ?_ _) | (with_reducible refine Kd.C_drew ?_))); (case side2 => exact (Kd.R_reads' HO_7.out).2.1); rintro e w28 ⟨v332, rfl, ho0, hb⟩; have n0_ := Aside0.mk (Kd.R_below (by (with_reducible repeat (first | apply Kd.R_alloc | apply Kd.R_drewN | apply Kd.R_drew)); exact HO_7.out) hb); have n1_ := Aside0.mk (Kd.R_lower ho0 (below_size (by repeat (first | (with_reducible first | exact HB.out | apply below_alloc | apply pw_below_drewN | apply below_drew1) | exact HB.out)))); have n2_ := Aside0.mk (below_step (by repeat (first | (with_reducible first | exact HB.out | apply below_alloc | apply pw_below_drewN | apply below_drew1) | exact HB.out)) hb); clear HO_7; clear HB; have HO_7 := n0_; have HO333 := n1_; have HB := n2_; clear n0_ n1_ n2_; (try clear hb); (try clear hb2); (try clear hk); (try clear hi); (try clear ho0); obtain ⟨Ao29, co29, eo29⟩ := Kd.R_slice HO333.out; subst eo29)); try go_wp2_with (first | (go_at_call 14; (with_reducible refine (index_Make.calls k2 _ _ x7_2 a1 t331 _ ?side1 ?side2 A24.out).mono ?_); (case side1 => repeat (first | exact (Kd.R_reads' HO_7.out).2.2 | (with_reducible refine Kd.C_alloc ?_ _) | (with_reducible refine Kd.C_drewN ?_ _) | (with_reducible refine Kd.C_drew ?_))); (case side2 => exact (Kd.R_reads' HO_7.out).2.1); rintro e w28 ⟨v332, rfl, ho0, hb⟩; have n0_ := Aside0.mk (Kd.R_below (by (with_reducible repeat (first | apply Kd.R_alloc | apply Kd.R_drewN | apply Kd.R_drew)); exact HO_7.out) hb); have n1_ := Aside0.mk (Kd.R_lower ho0 (below_size (by repeat (first | (with_reducible first | exact HB.out | apply below_alloc | apply pw_below_drewN | apply below_drew1) | exact HB.out)))); have n2_ := Aside0.mk (below_step (by repeat (first | (with_reducible first | exact HB.out | apply below_alloc | apply pw_below_drewN | apply below_drew1) | exact HB.out)) hb); clear HO_7; clear HB; have HO_7 := n0_; have HO333 := n1_; have HB := n2_; clear n0_ n1_ n2_; (try clear hb); (try clear hb2); (try clear hk); (try clear hi); (try clear ho0); obtain ⟨Ao29, co29, eo29⟩ := Kd.R_slice HO333.out; subst eo29)))
                  go_loopg [11] k2 (fun kq v11 w' => ∃ (x11_3 : Int), v11 = .int .i64 x11_3 ∧ Aside0 (cooperagelaw9_IndexFew.l1 kq a1 x7_2 t331 x11_3 = some r) ∧ Aside0 (kq ≤ k2) ∧ Aside0 (Kd.R k34 34 w' w.heap.size (fun _ => True) (.slice Ao27 x7_2.length co27) x7_2) ∧ Aside0 (Kd.R k36 36 w' w.heap.size (fun _ => True) (.slice Ao29 t331.length co29) t331) ∧ Aside0 (Below w.heap.size w w'))
                  case atStart => exact ⟨(0), (by first | rfl | (simp; done) | (simp [*]; done)), H', ⟨Nat.le_refl _⟩, ⟨by (with_reducible repeat (first | apply Kd.R_alloc | apply Kd.R_drewN | apply Kd.R_drew)); exact HO_7.out⟩, ⟨by (with_reducible repeat (first | apply Kd.R_alloc | apply Kd.R_drewN | apply Kd.R_drew)); exact HO333.out⟩, ⟨by repeat (first | (with_reducible first | exact HB.out | apply below_alloc | apply pw_below_drewN | apply below_drew1) | exact HB.out)⟩⟩
                  case round =>
                    clear H'
                    try clear c1
                    try clear c2
                    try clear p2
                    try clear p3
                    try clear q3
                    try clear hx3
                    try clear c4
                    try clear p6
                    try clear c7
                    try clear c8
                    try clear c9
                    try clear c9b0
                    try clear c10
                    try clear c11
                    try clear c11b0
                    try clear c12
                    try clear c12b0
                    try clear c14
                    try clear c15
                    try clear c25
                    try clear c25b0
                    try clear c25b1
                    try clear c26
                    try clear c26b0
                    try clear c26b1
                    try clear hcz17_0
                    try clear hcz17_1
                    try clear hcz17_2
                    try clear hcz17_3
                    try clear hcz17_4
                    try clear hcz19_0
                    try clear hcz19_1
                    try clear hcz19_2
                    try clear hcz19_3
                    try clear hcz19_4
                    try clear hcz22_0
                    try clear hcz22_1
                    try clear hcz22_2
                    try clear hcz22_3
                    try clear hcz22_4
                    try clear hfz17_0
                    try clear hfz17_1
                    try clear hfz17_2
                    try clear hfz17_3
                    try clear hfz17_4
                    try clear hfz19_0
                    try clear hfz19_1
                    try clear hfz19_2
                    try clear hfz19_3
                    try clear hfz19_4
                    try clear hfz22_0
                    try clear hfz22_1
                    try clear hfz22_2
                    try clear hfz22_3
                    try clear hfz22_4
                    try clear hx325_0
                    try clear hx325_1
                    try clear hx325_2
                    try clear hx325_3
                    try clear hx325_4
                    try clear p2
                    try clear p325
                    try clear q325
                    obtain ⟨x11_3, rfl, HA, HK3, HO_7, HO_10, HB⟩ := hrel
                    cases gk with
                    | zero => exact absurd HA.out (by simp [cooperagelaw9_IndexFew.l1])
                    | succ k3 =>
                      have H := HA.out
                      clear HA
                      simp only [cooperagelaw9_IndexFew.l1] at H
                      by_cases c30 : x11_3 < (t331.length : Int)
                      · rw [if_pos c30] at H
                        have c30b0 : decide (x11_3 < (t331.length : Int)) = true := decide_eq_true c30
                        clear c30
                        by_cases c31 : 0 ≤ x11_3
                        · rw [if_pos c31] at H
                          have c31b0 : decide (0 ≤ x11_3) = true := decide_eq_true c31
                          clear c31
                          obtain ⟨ji32, hji32⟩ : ∃ j_ : Int, (wrap64 (x11_3 * a1)) = j_ := ⟨_, rfl⟩
                          replace H : (if 0 ≤ (ji32) then (if (ji32) < (x7_2.length : Int) then (if ((rd_T36 t331 x11_3).f0) = ((rd_T34 x7_2 (ji32)).f0) then (if x11_3 > 0 then (if 0 ≤ (wrap64 (x11_3 - 1)) then (if (wrap64 (x11_3 - 1)) < (t331.length : Int) then (if ((rd_T36 t331 x11_3).f2) ≤ ((rd_T36 t331 (wrap64 (x11_3 - 1))).f2) then (some false) else (if ((rd_T36 t331 x11_3).f1) < ((rd_T36 t331 (wrap64 (x11_3 - 1))).f1) then (some false) else (if x11_3 = 0 then (if ((rd_T36 t331 x11_3).f2) = 0 then (if ((rd_T36 t331 x11_3).f1) = (-1099511627777) then (cooperagelaw9_IndexFew.l1 k3 a1 x7_2 t331 (wrap64 (x11_3 + 1))) else (some false)) else (some false)) else (cooperagelaw9_IndexFew.l1 k3 a1 x7_2 t331 (wrap64 (x11_3 + 1)))))) else (none)) else (none)) else (if x11_3 = 0 then (if ((rd_T36 t331 x11_3).f2) = 0 then (if ((rd_T36 t331 x11_3).f1) = (-1099511627777) then (cooperagelaw9_IndexFew.l1 k3 a1 x7_2 t331 (wrap64 (x11_3 + 1))) else (some false)) else (some false)) else (cooperagelaw9_IndexFew.l1 k3 a1 x7_2 t331 (wrap64 (x11_3 + 1))))) else (some false)) else (none)) else (none)) = some r := by first | (rw [hji32] at H; exact H) | (simp only [hji32] at H ⊢; exact H)
                          have hji32w : (IntKind.i64.wrap (x11_3 * a1)) = ji32 := (i64_w _).trans hji32
                          by_cases c33 : 0 ≤ (ji32)
                          · rw [if_pos c33] at H
                            have c33b0 : decide (0 ≤ (ji32)) = true := decide_eq_true c33
                            clear c33
                            by_cases c34 : (ji32) < (x7_2.length : Int)
                            · rw [if_pos c34] at H
                              have c34b0 : decide ((ji32) < (x7_2.length : Int)) = true := decide_eq_true c34
                              clear c34
                              by_cases c35 : ((rd_T36 t331 x11_3).f0) = ((rd_T34 x7_2 (ji32)).f0)
                              · rw [if_pos c35] at H
                                have c35b0 : (((rd_T36 t331 x11_3).f0) == ((rd_T34 x7_2 (ji32)).f0)) = true := beq_iff_eq.mpr c35
                                have c35b1 : (((rd_T36 t331 x11_3).f0) != ((rd_T34 x7_2 (ji32)).f0)) = false := bne_eq_false_iff_eq.mpr c35
                                clear c35
                                by_cases c36 : x11_3 > 0
                                · rw [if_pos c36] at H
                                  have c36b0 : decide (0 < x11_3) = true := decide_eq_true c36
                                  clear c36
                                  obtain ⟨ji37, hji37⟩ : ∃ j_ : Int, (wrap64 (x11_3 - 1)) = j_ := ⟨_, rfl⟩
                                  replace H : (if 0 ≤ (ji37) then (if (ji37) < (t331.length : Int) then (if ((rd_T36 t331 x11_3).f2) ≤ ((rd_T36 t331 (ji37)).f2) then (some false) else (if ((rd_T36 t331 x11_3).f1) < ((rd_T36 t331 (ji37)).f1) then (some false) else (if x11_3 = 0 then (if ((rd_T36 t331 x11_3).f2) = 0 then (if ((rd_T36 t331 x11_3).f1) = (-1099511627777) then (cooperagelaw9_IndexFew.l1 k3 a1 x7_2 t331 (wrap64 (x11_3 + 1))) else (some false)) else (some false)) else (cooperagelaw9_IndexFew.l1 k3 a1 x7_2 t331 (wrap64 (x11_3 + 1)))))) else (none)) else (none)) = some r := by first | (rw [hji37] at H; exact H) | (simp only [hji37] at H ⊢; exact H)
                                  have hji37w : (IntKind.i64.wrap (x11_3 - 1)) = ji37 := (i64_w _).trans hji37
                                  by_cases c38 : 0 ≤ (ji37)
                                  · rw [if_pos c38] at H
                                    have c38b0 : decide (0 ≤ (ji37)) = true := decide_eq_true c38
                                    clear c38
                                    by_cases c39 : (ji37) < (t331.length : Int)
                                    · rw [if_pos c39] at H
                                      have c39b0 : decide ((ji37) < (t331.length : Int)) = true := decide_eq_true c39
                                      clear c39
                                      by_cases c40 : ((rd_T36 t331 x11_3).f2) ≤ ((rd_T36 t331 (ji37)).f2)
                                      · rw [if_pos c40] at H
                                        have c40b0 : decide (((rd_T36 t331 x11_3).f2) ≤ ((rd_T36 t331 (ji37)).f2)) = true := decide_eq_true c40
                                        clear c40
                                        obtain rfl := Option.some.inj H
                                        have p334 : 0 ≤ (x11_3 : Int) := of_decide_eq_true (by first | (with_reducible assumption) | assumption)
                                        have q334 : x11_3 < (t331.length : Int) := of_decide_eq_true (by first | (with_reducible assumption) | assumption)
                                        obtain ⟨ad334, e334, hx334_0, hx334_1, hx334_2⟩ := at_T36 (Kd.R_reads' HO_10.out).2.2 x11_3 p334 q334
                                        cases e334
                                        replace p334 := eq_true p334
                                        replace q334 := eq_true q334
                                        have p335 : 0 ≤ ((ji32) : Int) := of_decide_eq_true (by first | (with_reducible assumption) | assumption)
                                        have q335 : (ji32) < (x7_2.length : Int) := of_decide_eq_true (by first | (with_reducible assumption) | assumption)
                                        obtain ⟨ad335, e335, hx335_0, hx335_1, hx335_2, hx335_3, hx335_4⟩ := at_T34 (Kd.R_reads' HO_7.out).2.2 (ji32) p335 q335
                                        cases e335
                                        replace p335 := eq_true p335
                                        replace q335 := eq_true q335
                                        have p336 : 0 ≤ (x11_3 : Int) := of_decide_eq_true (by first | (with_reducible assumption) | assumption)
                                        have q336 : x11_3 < (t331.length : Int) := of_decide_eq_true (by first | (with_reducible assumption) | assumption)
                                        obtain ⟨ad336, e336, hx336_0, hx336_1, hx336_2⟩ := at_T36 (Kd.R_reads' HO_10.out).2.2 x11_3 p336 q336
                                        obtain rfl : ad334 = ad336 := (by injection e336)
                                        replace p336 := eq_true p336
                                        replace q336 := eq_true q336
                                        have p337 : 0 ≤ ((ji37) : Int) := of_decide_eq_true (by first | (with_reducible assumption) | assumption)
                                        have q337 : (ji37) < (t331.length : Int) := of_decide_eq_true (by first | (with_reducible assumption) | assumption)
                                        obtain ⟨ad337, e337, hx337_0, hx337_1, hx337_2⟩ := at_T36 (Kd.R_reads' HO_10.out).2.2 (ji37) p337 q337
                                        obtain rfl : ad334 = ad337 := (by injection e337)
                                        replace p337 := eq_true p337
                                        replace q337 := eq_true q337
                                        go_wp2
                                        repeat (go_quiet (fail); try go_wp2)
                                        go_ret
                                        exact ⟨by first | rfl | (simp [errW_none, errW_some] <;> rfl) | (simp only [← hji32, ← hji37]; first | rfl | (simp [errW_none, errW_some] <;> rfl)) | (simp [*, errW_none, errW_some] <;> rfl) | (simp [errW_none, errW_some]; generalize ByteArray.toList _ = l_; cases l_ <;> rfl), by repeat (first | (with_reducible first | exact HB.out | apply below_alloc | apply pw_below_drewN | apply below_drew1) | exact HB.out)⟩
                                      · rw [if_neg c40] at H
                                        have c40b0 : decide (((rd_T36 t331 x11_3).f2) ≤ ((rd_T36 t331 (ji37)).f2)) = false := decide_eq_false c40
                                        clear c40
                                        by_cases c41 : ((rd_T36 t331 x11_3).f1) < ((rd_T36 t331 (ji37)).f1)
                                        · rw [if_pos c41] at H
                                          have c41b0 : decide (((rd_T36 t331 x11_3).f1) < ((rd_T36 t331 (ji37)).f1)) = true := decide_eq_true c41
                                          clear c41
                                          obtain rfl := Option.some.inj H
                                          have p334 : 0 ≤ (x11_3 : Int) := of_decide_eq_true (by first | (with_reducible assumption) | assumption)
                                          have q334 : x11_3 < (t331.length : Int) := of_decide_eq_true (by first | (with_reducible assumption) | assumption)
                                          obtain ⟨ad334, e334, hx334_0, hx334_1, hx334_2⟩ := at_T36 (Kd.R_reads' HO_10.out).2.2 x11_3 p334 q334
                                          cases e334
                                          replace p334 := eq_true p334
                                          replace q334 := eq_true q334
                                          have p335 : 0 ≤ ((ji32) : Int) := of_decide_eq_true (by first | (with_reducible assumption) | assumption)
                                          have q335 : (ji32) < (x7_2.length : Int) := of_decide_eq_true (by first | (with_reducible assumption) | assumption)
                                          obtain ⟨ad335, e335, hx335_0, hx335_1, hx335_2, hx335_3, hx335_4⟩ := at_T34 (Kd.R_reads' HO_7.out).2.2 (ji32) p335 q335
                                          cases e335
                                          replace p335 := eq_true p335
                                          replace q335 := eq_true q335
                                          have p336 : 0 ≤ (x11_3 : Int) := of_decide_eq_true (by first | (with_reducible assumption) | assumption)
                                          have q336 : x11_3 < (t331.length : Int) := of_decide_eq_true (by first | (with_reducible assumption) | assumption)
                                          obtain ⟨ad336, e336, hx336_0, hx336_1, hx336_2⟩ := at_T36 (Kd.R_reads' HO_10.out).2.2 x11_3 p336 q336
                                          obtain rfl : ad334 = ad336 := (by injection e336)
                                          replace p336 := eq_true p336
                                          replace q336 := eq_true q336
                                          have p337 : 0 ≤ ((ji37) : Int) := of_decide_eq_true (by first | (with_reducible assumption) | assumption)
                                          have q337 : (ji37) < (t331.length : Int) := of_decide_eq_true (by first | (with_reducible assumption) | assumption)
                                          obtain ⟨ad337, e337, hx337_0, hx337_1, hx337_2⟩ := at_T36 (Kd.R_reads' HO_10.out).2.2 (ji37) p337 q337
                                          obtain rfl : ad334 = ad337 := (by injection e337)
                                          replace p337 := eq_true p337
                                          replace q337 := eq_true q337
                                          have p338 : 0 ≤ (x11_3 : Int) := of_decide_eq_true (by first | (with_reducible assumption) | assumption)
                                          have q338 : x11_3 < (t331.length : Int) := of_decide_eq_true (by first | (with_reducible assumption) | assumption)
                                          obtain ⟨ad338, e338, hx338_0, hx338_1, hx338_2⟩ := at_T36 (Kd.R_reads' HO_10.out).2.2 x11_3 p338 q338
                                          obtain rfl : ad334 = ad338 := (by injection e338)
                                          replace p338 := eq_true p338
                                          replace q338 := eq_true q338
                                          have p339 : 0 ≤ ((ji37) : Int) := of_decide_eq_true (by first | (with_reducible assumption) | assumption)
                                          have q339 : (ji37) < (t331.length : Int) := of_decide_eq_true (by first | (with_reducible assumption) | assumption)
                                          obtain ⟨ad339, e339, hx339_0, hx339_1, hx339_2⟩ := at_T36 (Kd.R_reads' HO_10.out).2.2 (ji37) p339 q339
                                          obtain rfl : ad334 = ad339 := (by injection e339)
                                          replace p339 := eq_true p339
                                          replace q339 := eq_true q339
                                          go_wp2
                                          repeat (go_quiet (fail); try go_wp2)
                                          go_ret
                                          exact ⟨by first | rfl | (simp [errW_none, errW_some] <;> rfl) | (simp only [← hji32, ← hji37]; first | rfl | (simp [errW_none, errW_some] <;> rfl)) | (simp [*, errW_none, errW_some] <;> rfl) | (simp [errW_none, errW_some]; generalize ByteArray.toList _ = l_; cases l_ <;> rfl), by repeat (first | (with_reducible first | exact HB.out | apply below_alloc | apply pw_below_drewN | apply below_drew1) | exact HB.out)⟩
                                        · rw [if_neg c41] at H
                                          have c41b0 : decide (((rd_T36 t331 x11_3).f1) < ((rd_T36 t331 (ji37)).f1)) = false := decide_eq_false c41
                                          clear c41
                                          by_cases c42 : x11_3 = 0
                                          · rw [if_pos c42] at H
                                            have c42b0 : (x11_3 == 0) = true := beq_iff_eq.mpr c42
                                            have c42b1 : (x11_3 != 0) = false := bne_eq_false_iff_eq.mpr c42
                                            clear c42
                                            by_cases c43 : ((rd_T36 t331 x11_3).f2) = 0
                                            · rw [if_pos c43] at H
                                              have c43b0 : (((rd_T36 t331 x11_3).f2) == 0) = true := beq_iff_eq.mpr c43
                                              have c43b1 : (((rd_T36 t331 x11_3).f2) != 0) = false := bne_eq_false_iff_eq.mpr c43
                                              clear c43
                                              by_cases c44 : ((rd_T36 t331 x11_3).f1) = (-1099511627777)
                                              · rw [if_pos c44] at H
                                                have c44b0 : (((rd_T36 t331 x11_3).f1) == (-1099511627777)) = true := beq_iff_eq.mpr c44
                                                have c44b1 : (((rd_T36 t331 x11_3).f1) != (-1099511627777)) = false := bne_eq_false_iff_eq.mpr c44
                                                clear c44
                                                have H' := Aside0.mk H
                                                clear H
                                                have p334 : 0 ≤ (x11_3 : Int) := of_decide_eq_true (by first | (with_reducible assumption) | assumption)
                                                have q334 : x11_3 < (t331.length : Int) := of_decide_eq_true (by first | (with_reducible assumption) | assumption)
                                                obtain ⟨ad334, e334, hx334_0, hx334_1, hx334_2⟩ := at_T36 (Kd.R_reads' HO_10.out).2.2 x11_3 p334 q334
                                                cases e334
                                                replace p334 := eq_true p334
                                                replace q334 := eq_true q334
                                                have p335 : 0 ≤ ((ji32) : Int) := of_decide_eq_true (by first | (with_reducible assumption) | assumption)
                                                have q335 : (ji32) < (x7_2.length : Int) := of_decide_eq_true (by first | (with_reducible assumption) | assumption)
                                                obtain ⟨ad335, e335, hx335_0, hx335_1, hx335_2, hx335_3, hx335_4⟩ := at_T34 (Kd.R_reads' HO_7.out).2.2 (ji32) p335 q335
                                                cases e335
                                                replace p335 := eq_true p335
                                                replace q335 := eq_true q335
                                                have p336 : 0 ≤ (x11_3 : Int) := of_decide_eq_true (by first | (with_reducible assumption) | assumption)
                                                have q336 : x11_3 < (t331.length : Int) := of_decide_eq_true (by first | (with_reducible assumption) | assumption)
                                                obtain ⟨ad336, e336, hx336_0, hx336_1, hx336_2⟩ := at_T36 (Kd.R_reads' HO_10.out).2.2 x11_3 p336 q336
                                                obtain rfl : ad334 = ad336 := (by injection e336)
                                                replace p336 := eq_true p336
                                                replace q336 := eq_true q336
                                                have p337 : 0 ≤ ((ji37) : Int) := of_decide_eq_true (by first | (with_reducible assumption) | assumption)
                                                have q337 : (ji37) < (t331.length : Int) := of_decide_eq_true (by first | (with_reducible assumption) | assumption)
                                                obtain ⟨ad337, e337, hx337_0, hx337_1, hx337_2⟩ := at_T36 (Kd.R_reads' HO_10.out).2.2 (ji37) p337 q337
                                                obtain rfl : ad334 = ad337 := (by injection e337)
                                                replace p337 := eq_true p337
                                                replace q337 := eq_true q337
                                                have p338 : 0 ≤ (x11_3 : Int) := of_decide_eq_true (by first | (with_reducible assumption) | assumption)
                                                have q338 : x11_3 < (t331.length : Int) := of_decide_eq_true (by first | (with_reducible assumption) | assumption)
                                                obtain ⟨ad338, e338, hx338_0, hx338_1, hx338_2⟩ := at_T36 (Kd.R_reads' HO_10.out).2.2 x11_3 p338 q338
                                                obtain rfl : ad334 = ad338 := (by injection e338)
                                                replace p338 := eq_true p338
                                                replace q338 := eq_true q338
                                                have p339 : 0 ≤ ((ji37) : Int) := of_decide_eq_true (by first | (with_reducible assumption) | assumption)
                                                have q339 : (ji37) < (t331.length : Int) := of_decide_eq_true (by first | (with_reducible assumption) | assumption)
                                                obtain ⟨ad339, e339, hx339_0, hx339_1, hx339_2⟩ := at_T36 (Kd.R_reads' HO_10.out).2.2 (ji37) p339 q339
                                                obtain rfl : ad334 = ad339 := (by injection e339)
                                                replace p339 := eq_true p339
                                                replace q339 := eq_true q339
                                                have p340 : 0 ≤ (x11_3 : Int) := of_decide_eq_true (by first | (with_reducible assumption) | assumption)
                                                have q340 : x11_3 < (t331.length : Int) := of_decide_eq_true (by first | (with_reducible assumption) | assumption)
                                                obtain ⟨ad340, e340, hx340_0, hx340_1, hx340_2⟩ := at_T36 (Kd.R_reads' HO_10.out).2.2 x11_3 p340 q340
                                                obtain rfl : ad334 = ad340 := (by injection e340)
                                                replace p340 := eq_true p340
                                                replace q340 := eq_true q340
                                                have p341 : 0 ≤ (x11_3 : Int) := of_decide_eq_true (by first | (with_reducible assumption) | assumption)
                                                have q341 : x11_3 < (t331.length : Int) := of_decide_eq_true (by first | (with_reducible assumption) | assumption)
                                                obtain ⟨ad341, e341, hx341_0, hx341_1, hx341_2⟩ := at_T36 (Kd.R_reads' HO_10.out).2.2 x11_3 p341 q341
                                                obtain rfl : ad334 = ad341 := (by injection e341)
                                                replace p341 := eq_true p341
                                                replace q341 := eq_true q341
                                                go_wp2
                                                repeat (go_quiet (fail); try go_wp2)
                                                go_roundg k3
                                                case measure => have := HJ4.out; have := HK2.out; have := HK3.out; omega
                                                case rel => exact ⟨(wrap64 (x11_3 + 1)), (by first | rfl | (simp; done) | (simp [*]; done)), H', ⟨by have := HJ4.out; have := HK2.out; have := HK3.out; omega⟩, ⟨by (with_reducible repeat (first | apply Kd.R_alloc | apply Kd.R_drewN | apply Kd.R_drew)); exact HO_7.out⟩, ⟨by (with_reducible repeat (first | apply Kd.R_alloc | apply Kd.R_drewN | apply Kd.R_drew)); exact HO_10.out⟩, ⟨by repeat (first | (with_reducible first | exact HB.out | apply below_alloc | apply pw_below_drewN | apply below_drew1) | exact HB.out)⟩⟩
                                              · rw [if_neg c44] at H
                                                have c44b0 : (((rd_T36 t331 x11_3).f1) == (-1099511627777)) = false := beq_eq_false_iff_ne.mpr c44
                                                have c44b1 : (((rd_T36 t331 x11_3).f1) != (-1099511627777)) = true := bne_iff_ne.mpr c44
                                                obtain rfl := Option.some.inj H
                                                have p334 : 0 ≤ (x11_3 : Int) := of_decide_eq_true (by first | (with_reducible assumption) | assumption)
                                                have q334 : x11_3 < (t331.length : Int) := of_decide_eq_true (by first | (with_reducible assumption) | assumption)
                                                obtain ⟨ad334, e334, hx334_0, hx334_1, hx334_2⟩ := at_T36 (Kd.R_reads' HO_10.out).2.2 x11_3 p334 q334
                                                cases e334
                                                replace p334 := eq_true p334
                                                replace q334 := eq_true q334
                                                have p335 : 0 ≤ ((ji32) : Int) := of_decide_eq_true (by first | (with_reducible assumption) | assumption)
                                                have q335 : (ji32) < (x7_2.length : Int) := of_decide_eq_true (by first | (with_reducible assumption) | assumption)
                                                obtain ⟨ad335, e335, hx335_0, hx335_1, hx335_2, hx335_3, hx335_4⟩ := at_T34 (Kd.R_reads' HO_7.out).2.2 (ji32) p335 q335
                                                cases e335
                                                replace p335 := eq_true p335
                                                replace q335 := eq_true q335
                                                have p336 : 0 ≤ (x11_3 : Int) := of_decide_eq_true (by first | (with_reducible assumption) | assumption)
                                                have q336 : x11_3 < (t331.length : Int) := of_decide_eq_true (by first | (with_reducible assumption) | assumption)
                                                obtain ⟨ad336, e336, hx336_0, hx336_1, hx336_2⟩ := at_T36 (Kd.R_reads' HO_10.out).2.2 x11_3 p336 q336
                                                obtain rfl : ad334 = ad336 := (by injection e336)
                                                replace p336 := eq_true p336
                                                replace q336 := eq_true q336
                                                have p337 : 0 ≤ ((ji37) : Int) := of_decide_eq_true (by first | (with_reducible assumption) | assumption)
                                                have q337 : (ji37) < (t331.length : Int) := of_decide_eq_true (by first | (with_reducible assumption) | assumption)
                                                obtain ⟨ad337, e337, hx337_0, hx337_1, hx337_2⟩ := at_T36 (Kd.R_reads' HO_10.out).2.2 (ji37) p337 q337
                                                obtain rfl : ad334 = ad337 := (by injection e337)
                                                replace p337 := eq_true p337
                                                replace q337 := eq_true q337
                                                have p338 : 0 ≤ (x11_3 : Int) := of_decide_eq_true (by first | (with_reducible assumption) | assumption)
                                                have q338 : x11_3 < (t331.length : Int) := of_decide_eq_true (by first | (with_reducible assumption) | assumption)
                                                obtain ⟨ad338, e338, hx338_0, hx338_1, hx338_2⟩ := at_T36 (Kd.R_reads' HO_10.out).2.2 x11_3 p338 q338
                                                obtain rfl : ad334 = ad338 := (by injection e338)
                                                replace p338 := eq_true p338
                                                replace q338 := eq_true q338
                                                have p339 : 0 ≤ ((ji37) : Int) := of_decide_eq_true (by first | (with_reducible assumption) | assumption)
                                                have q339 : (ji37) < (t331.length : Int) := of_decide_eq_true (by first | (with_reducible assumption) | assumption)
                                                obtain ⟨ad339, e339, hx339_0, hx339_1, hx339_2⟩ := at_T36 (Kd.R_reads' HO_10.out).2.2 (ji37) p339 q339
                                                obtain rfl : ad334 = ad339 := (by injection e339)
                                                replace p339 := eq_true p339
                                                replace q339 := eq_true q339
                                                have p340 : 0 ≤ (x11_3 : Int) := of_decide_eq_true (by first | (with_reducible assumption) | assumption)
                                                have q340 : x11_3 < (t331.length : Int) := of_decide_eq_true (by first | (with_reducible assumption) | assumption)
                                                obtain ⟨ad340, e340, hx340_0, hx340_1, hx340_2⟩ := at_T36 (Kd.R_reads' HO_10.out).2.2 x11_3 p340 q340
                                                obtain rfl : ad334 = ad340 := (by injection e340)
                                                replace p340 := eq_true p340
                                                replace q340 := eq_true q340
                                                have p341 : 0 ≤ (x11_3 : Int) := of_decide_eq_true (by first | (with_reducible assumption) | assumption)
                                                have q341 : x11_3 < (t331.length : Int) := of_decide_eq_true (by first | (with_reducible assumption) | assumption)
                                                obtain ⟨ad341, e341, hx341_0, hx341_1, hx341_2⟩ := at_T36 (Kd.R_reads' HO_10.out).2.2 x11_3 p341 q341
                                                obtain rfl : ad334 = ad341 := (by injection e341)
                                                replace p341 := eq_true p341
                                                replace q341 := eq_true q341
                                                go_wp2
                                                repeat (go_quiet (fail); try go_wp2)
                                                go_ret
                                                exact ⟨by first | rfl | (simp [errW_none, errW_some] <;> rfl) | (simp only [← hji32, ← hji37]; first | rfl | (simp [errW_none, errW_some] <;> rfl)) | (simp [*, errW_none, errW_some] <;> rfl) | (simp [errW_none, errW_some]; generalize ByteArray.toList _ = l_; cases l_ <;> rfl), by repeat (first | (with_reducible first | exact HB.out | apply below_alloc | apply pw_below_drewN | apply below_drew1) | exact HB.out)⟩
                                            · rw [if_neg c43] at H
                                              have c43b0 : (((rd_T36 t331 x11_3).f2) == 0) = false := beq_eq_false_iff_ne.mpr c43
                                              have c43b1 : (((rd_T36 t331 x11_3).f2) != 0) = true := bne_iff_ne.mpr c43
                                              obtain rfl := Option.some.inj H
                                              have p334 : 0 ≤ (x11_3 : Int) := of_decide_eq_true (by first | (with_reducible assumption) | assumption)
                                              have q334 : x11_3 < (t331.length : Int) := of_decide_eq_true (by first | (with_reducible assumption) | assumption)
                                              obtain ⟨ad334, e334, hx334_0, hx334_1, hx334_2⟩ := at_T36 (Kd.R_reads' HO_10.out).2.2 x11_3 p334 q334
                                              cases e334
                                              replace p334 := eq_true p334
                                              replace q334 := eq_true q334
                                              have p335 : 0 ≤ ((ji32) : Int) := of_decide_eq_true (by first | (with_reducible assumption) | assumption)
                                              have q335 : (ji32) < (x7_2.length : Int) := of_decide_eq_true (by first | (with_reducible assumption) | assumption)
                                              obtain ⟨ad335, e335, hx335_0, hx335_1, hx335_2, hx335_3, hx335_4⟩ := at_T34 (Kd.R_reads' HO_7.out).2.2 (ji32) p335 q335
                                              cases e335
                                              replace p335 := eq_true p335
                                              replace q335 := eq_true q335
                                              have p336 : 0 ≤ (x11_3 : Int) := of_decide_eq_true (by first | (with_reducible assumption) | assumption)
                                              have q336 : x11_3 < (t331.length : Int) := of_decide_eq_true (by first | (with_reducible assumption) | assumption)
                                              obtain ⟨ad336, e336, hx336_0, hx336_1, hx336_2⟩ := at_T36 (Kd.R_reads' HO_10.out).2.2 x11_3 p336 q336
                                              obtain rfl : ad334 = ad336 := (by injection e336)
                                              replace p336 := eq_true p336
                                              replace q336 := eq_true q336
                                              have p337 : 0 ≤ ((ji37) : Int) := of_decide_eq_true (by first | (with_reducible assumption) | assumption)
                                              have q337 : (ji37) < (t331.length : Int) := of_decide_eq_true (by first | (with_reducible assumption) | assumption)
                                              obtain ⟨ad337, e337, hx337_0, hx337_1, hx337_2⟩ := at_T36 (Kd.R_reads' HO_10.out).2.2 (ji37) p337 q337
                                              obtain rfl : ad334 = ad337 := (by injection e337)
                                              replace p337 := eq_true p337
                                              replace q337 := eq_true q337
                                              have p338 : 0 ≤ (x11_3 : Int) := of_decide_eq_true (by first | (with_reducible assumption) | assumption)
                                              have q338 : x11_3 < (t331.length : Int) := of_decide_eq_true (by first | (with_reducible assumption) | assumption)
                                              obtain ⟨ad338, e338, hx338_0, hx338_1, hx338_2⟩ := at_T36 (Kd.R_reads' HO_10.out).2.2 x11_3 p338 q338
                                              obtain rfl : ad334 = ad338 := (by injection e338)
                                              replace p338 := eq_true p338
                                              replace q338 := eq_true q338
                                              have p339 : 0 ≤ ((ji37) : Int) := of_decide_eq_true (by first | (with_reducible assumption) | assumption)
                                              have q339 : (ji37) < (t331.length : Int) := of_decide_eq_true (by first | (with_reducible assumption) | assumption)
                                              obtain ⟨ad339, e339, hx339_0, hx339_1, hx339_2⟩ := at_T36 (Kd.R_reads' HO_10.out).2.2 (ji37) p339 q339
                                              obtain rfl : ad334 = ad339 := (by injection e339)
                                              replace p339 := eq_true p339
                                              replace q339 := eq_true q339
                                              have p340 : 0 ≤ (x11_3 : Int) := of_decide_eq_true (by first | (with_reducible assumption) | assumption)
                                              have q340 : x11_3 < (t331.length : Int) := of_decide_eq_true (by first | (with_reducible assumption) | assumption)
                                              obtain ⟨ad340, e340, hx340_0, hx340_1, hx340_2⟩ := at_T36 (Kd.R_reads' HO_10.out).2.2 x11_3 p340 q340
                                              obtain rfl : ad334 = ad340 := (by injection e340)
                                              replace p340 := eq_true p340
                                              replace q340 := eq_true q340
                                              go_wp2
                                              repeat (go_quiet (fail); try go_wp2)
                                              go_ret
                                              exact ⟨by first | rfl | (simp [errW_none, errW_some] <;> rfl) | (simp only [← hji32, ← hji37]; first | rfl | (simp [errW_none, errW_some] <;> rfl)) | (simp [*, errW_none, errW_some] <;> rfl) | (simp [errW_none, errW_some]; generalize ByteArray.toList _ = l_; cases l_ <;> rfl), by repeat (first | (with_reducible first | exact HB.out | apply below_alloc | apply pw_below_drewN | apply below_drew1) | exact HB.out)⟩
                                          · rw [if_neg c42] at H
                                            have c42b0 : (x11_3 == 0) = false := beq_eq_false_iff_ne.mpr c42
                                            have c42b1 : (x11_3 != 0) = true := bne_iff_ne.mpr c42
                                            have H' := Aside0.mk H
                                            clear H
                                            have p334 : 0 ≤ (x11_3 : Int) := of_decide_eq_true (by first | (with_reducible assumption) | assumption)
                                            have q334 : x11_3 < (t331.length : Int) := of_decide_eq_true (by first | (with_reducible assumption) | assumption)
                                            obtain ⟨ad334, e334, hx334_0, hx334_1, hx334_2⟩ := at_T36 (Kd.R_reads' HO_10.out).2.2 x11_3 p334 q334
                                            cases e334
                                            replace p334 := eq_true p334
                                            replace q334 := eq_true q334
                                            have p335 : 0 ≤ ((ji32) : Int) := of_decide_eq_true (by first | (with_reducible assumption) | assumption)
                                            have q335 : (ji32) < (x7_2.length : Int) := of_decide_eq_true (by first | (with_reducible assumption) | assumption)
                                            obtain ⟨ad335, e335, hx335_0, hx335_1, hx335_2, hx335_3, hx335_4⟩ := at_T34 (Kd.R_reads' HO_7.out).2.2 (ji32) p335 q335
                                            cases e335
                                            replace p335 := eq_true p335
                                            replace q335 := eq_true q335
                                            have p336 : 0 ≤ (x11_3 : Int) := of_decide_eq_true (by first | (with_reducible assumption) | assumption)
                                            have q336 : x11_3 < (t331.length : Int) := of_decide_eq_true (by first | (with_reducible assumption) | assumption)
                                            obtain ⟨ad336, e336, hx336_0, hx336_1, hx336_2⟩ := at_T36 (Kd.R_reads' HO_10.out).2.2 x11_3 p336 q336
                                            obtain rfl : ad334 = ad336 := (by injection e336)
                                            replace p336 := eq_true p336
                                            replace q336 := eq_true q336
                                            have p337 : 0 ≤ ((ji37) : Int) := of_decide_eq_true (by first | (with_reducible assumption) | assumption)
                                            have q337 : (ji37) < (t331.length : Int) := of_decide_eq_true (by first | (with_reducible assumption) | assumption)
                                            obtain ⟨ad337, e337, hx337_0, hx337_1, hx337_2⟩ := at_T36 (Kd.R_reads' HO_10.out).2.2 (ji37) p337 q337
                                            obtain rfl : ad334 = ad337 := (by injection e337)
                                            replace p337 := eq_true p337
                                            replace q337 := eq_true q337
                                            have p338 : 0 ≤ (x11_3 : Int) := of_decide_eq_true (by first | (with_reducible assumption) | assumption)
                                            have q338 : x11_3 < (t331.length : Int) := of_decide_eq_true (by first | (with_reducible assumption) | assumption)
                                            obtain ⟨ad338, e338, hx338_0, hx338_1, hx338_2⟩ := at_T36 (Kd.R_reads' HO_10.out).2.2 x11_3 p338 q338
                                            obtain rfl : ad334 = ad338 := (by injection e338)
                                            replace p338 := eq_true p338
                                            replace q338 := eq_true q338
                                            have p339 : 0 ≤ ((ji37) : Int) := of_decide_eq_true (by first | (with_reducible assumption) | assumption)
                                            have q339 : (ji37) < (t331.length : Int) := of_decide_eq_true (by first | (with_reducible assumption) | assumption)
                                            obtain ⟨ad339, e339, hx339_0, hx339_1, hx339_2⟩ := at_T36 (Kd.R_reads' HO_10.out).2.2 (ji37) p339 q339
                                            obtain rfl : ad334 = ad339 := (by injection e339)
                                            replace p339 := eq_true p339
                                            replace q339 := eq_true q339
                                            go_wp2
                                            repeat (go_quiet (fail); try go_wp2)
                                            go_roundg k3
                                            case measure => have := HJ4.out; have := HK2.out; have := HK3.out; omega
                                            case rel => exact ⟨(wrap64 (x11_3 + 1)), (by first | rfl | (simp; done) | (simp [*]; done)), H', ⟨by have := HJ4.out; have := HK2.out; have := HK3.out; omega⟩, ⟨by (with_reducible repeat (first | apply Kd.R_alloc | apply Kd.R_drewN | apply Kd.R_drew)); exact HO_7.out⟩, ⟨by (with_reducible repeat (first | apply Kd.R_alloc | apply Kd.R_drewN | apply Kd.R_drew)); exact HO_10.out⟩, ⟨by repeat (first | (with_reducible first | exact HB.out | apply below_alloc | apply pw_below_drewN | apply below_drew1) | exact HB.out)⟩⟩
                                    · rw [if_neg c39] at H
                                      exact absurd H (by simp)
                                  · rw [if_neg c38] at H
                                    exact absurd H (by simp)
                                · rw [if_neg c36] at H
                                  have c36b0 : decide (0 < x11_3) = false := decide_eq_false c36
                                  clear c36
                                  by_cases c45 : x11_3 = 0
                                  · rw [if_pos c45] at H
                                    have c45b0 : (x11_3 == 0) = true := beq_iff_eq.mpr c45
                                    have c45b1 : (x11_3 != 0) = false := bne_eq_false_iff_eq.mpr c45
                                    clear c45
                                    by_cases c46 : ((rd_T36 t331 x11_3).f2) = 0
                                    · rw [if_pos c46] at H
                                      have c46b0 : (((rd_T36 t331 x11_3).f2) == 0) = true := beq_iff_eq.mpr c46
                                      have c46b1 : (((rd_T36 t331 x11_3).f2) != 0) = false := bne_eq_false_iff_eq.mpr c46
                                      clear c46
                                      by_cases c47 : ((rd_T36 t331 x11_3).f1) = (-1099511627777)
                                      · rw [if_pos c47] at H
                                        have c47b0 : (((rd_T36 t331 x11_3).f1) == (-1099511627777)) = true := beq_iff_eq.mpr c47
                                        have c47b1 : (((rd_T36 t331 x11_3).f1) != (-1099511627777)) = false := bne_eq_false_iff_eq.mpr c47
                                        clear c47
                                        have H' := Aside0.mk H
                                        clear H
                                        have p334 : 0 ≤ (x11_3 : Int) := of_decide_eq_true (by first | (with_reducible assumption) | assumption)
                                        have q334 : x11_3 < (t331.length : Int) := of_decide_eq_true (by first | (with_reducible assumption) | assumption)
                                        obtain ⟨ad334, e334, hx334_0, hx334_1, hx334_2⟩ := at_T36 (Kd.R_reads' HO_10.out).2.2 x11_3 p334 q334
                                        cases e334
                                        replace p334 := eq_true p334
                                        replace q334 := eq_true q334
                                        have p335 : 0 ≤ ((ji32) : Int) := of_decide_eq_true (by first | (with_reducible assumption) | assumption)
                                        have q335 : (ji32) < (x7_2.length : Int) := of_decide_eq_true (by first | (with_reducible assumption) | assumption)
                                        obtain ⟨ad335, e335, hx335_0, hx335_1, hx335_2, hx335_3, hx335_4⟩ := at_T34 (Kd.R_reads' HO_7.out).2.2 (ji32) p335 q335
                                        cases e335
                                        replace p335 := eq_true p335
                                        replace q335 := eq_true q335
                                        have p342 : 0 ≤ (x11_3 : Int) := of_decide_eq_true (by first | (with_reducible assumption) | assumption)
                                        have q342 : x11_3 < (t331.length : Int) := of_decide_eq_true (by first | (with_reducible assumption) | assumption)
                                        obtain ⟨ad342, e342, hx342_0, hx342_1, hx342_2⟩ := at_T36 (Kd.R_reads' HO_10.out).2.2 x11_3 p342 q342
                                        obtain rfl : ad334 = ad342 := (by injection e342)
                                        replace p342 := eq_true p342
                                        replace q342 := eq_true q342
                                        have p343 : 0 ≤ (x11_3 : Int) := of_decide_eq_true (by first | (with_reducible assumption) | assumption)
                                        have q343 : x11_3 < (t331.length : Int) := of_decide_eq_true (by first | (with_reducible assumption) | assumption)
                                        obtain ⟨ad343, e343, hx343_0, hx343_1, hx343_2⟩ := at_T36 (Kd.R_reads' HO_10.out).2.2 x11_3 p343 q343
                                        obtain rfl : ad334 = ad343 := (by injection e343)
                                        replace p343 := eq_true p343
                                        replace q343 := eq_true q343
                                        go_wp2
                                        repeat (go_quiet (fail); try go_wp2)
                                        go_roundg k3
                                        case measure => have := HJ4.out; have := HK2.out; have := HK3.out; omega
                                        case rel => exact ⟨(wrap64 (x11_3 + 1)), (by first | rfl | (simp; done) | (simp [*]; done)), H', ⟨by have := HJ4.out; have := HK2.out; have := HK3.out; omega⟩, ⟨by (with_reducible repeat (first | apply Kd.R_alloc | apply Kd.R_drewN | apply Kd.R_drew)); exact HO_7.out⟩, ⟨by (with_reducible repeat (first | apply Kd.R_alloc | apply Kd.R_drewN | apply Kd.R_drew)); exact HO_10.out⟩, ⟨by repeat (first | (with_reducible first | exact HB.out | apply below_alloc | apply pw_below_drewN | apply below_drew1) | exact HB.out)⟩⟩
                                      · rw [if_neg c47] at H
                                        have c47b0 : (((rd_T36 t331 x11_3).f1) == (-1099511627777)) = false := beq_eq_false_iff_ne.mpr c47
                                        have c47b1 : (((rd_T36 t331 x11_3).f1) != (-1099511627777)) = true := bne_iff_ne.mpr c47
                                        obtain rfl := Option.some.inj H
                                        have p334 : 0 ≤ (x11_3 : Int) := of_decide_eq_true (by first | (with_reducible assumption) | assumption)
                                        have q334 : x11_3 < (t331.length : Int) := of_decide_eq_true (by first | (with_reducible assumption) | assumption)
                                        obtain ⟨ad334, e334, hx334_0, hx334_1, hx334_2⟩ := at_T36 (Kd.R_reads' HO_10.out).2.2 x11_3 p334 q334
                                        cases e334
                                        replace p334 := eq_true p334
                                        replace q334 := eq_true q334
                                        have p335 : 0 ≤ ((ji32) : Int) := of_decide_eq_true (by first | (with_reducible assumption) | assumption)
                                        have q335 : (ji32) < (x7_2.length : Int) := of_decide_eq_true (by first | (with_reducible assumption) | assumption)
                                        obtain ⟨ad335, e335, hx335_0, hx335_1, hx335_2, hx335_3, hx335_4⟩ := at_T34 (Kd.R_reads' HO_7.out).2.2 (ji32) p335 q335
                                        cases e335
                                        replace p335 := eq_true p335
                                        replace q335 := eq_true q335
                                        have p342 : 0 ≤ (x11_3 : Int) := of_decide_eq_true (by first | (with_reducible assumption) | assumption)
                                        have q342 : x11_3 < (t331.length : Int) := of_decide_eq_true (by first | (with_reducible assumption) | assumption)
                                        obtain ⟨ad342, e342, hx342_0, hx342_1, hx342_2⟩ := at_T36 (Kd.R_reads' HO_10.out).2.2 x11_3 p342 q342
                                        obtain rfl : ad334 = ad342 := (by injection e342)
                                        replace p342 := eq_true p342
                                        replace q342 := eq_true q342
                                        have p343 : 0 ≤ (x11_3 : Int) := of_decide_eq_true (by first | (with_reducible assumption) | assumption)
                                        have q343 : x11_3 < (t331.length : Int) := of_decide_eq_true (by first | (with_reducible assumption) | assumption)
                                        obtain ⟨ad343, e343, hx343_0, hx343_1, hx343_2⟩ := at_T36 (Kd.R_reads' HO_10.out).2.2 x11_3 p343 q343
                                        obtain rfl : ad334 = ad343 := (by injection e343)
                                        replace p343 := eq_true p343
                                        replace q343 := eq_true q343
                                        go_wp2
                                        repeat (go_quiet (fail); try go_wp2)
                                        go_ret
                                        exact ⟨by first | rfl | (simp [errW_none, errW_some] <;> rfl) | (simp only [← hji32]; first | rfl | (simp [errW_none, errW_some] <;> rfl)) | (simp [*, errW_none, errW_some] <;> rfl) | (simp [errW_none, errW_some]; generalize ByteArray.toList _ = l_; cases l_ <;> rfl), by repeat (first | (with_reducible first | exact HB.out | apply below_alloc | apply pw_below_drewN | apply below_drew1) | exact HB.out)⟩
                                    · rw [if_neg c46] at H
                                      have c46b0 : (((rd_T36 t331 x11_3).f2) == 0) = false := beq_eq_false_iff_ne.mpr c46
                                      have c46b1 : (((rd_T36 t331 x11_3).f2) != 0) = true := bne_iff_ne.mpr c46
                                      obtain rfl := Option.some.inj H
                                      have p334 : 0 ≤ (x11_3 : Int) := of_decide_eq_true (by first | (with_reducible assumption) | assumption)
                                      have q334 : x11_3 < (t331.length : Int) := of_decide_eq_true (by first | (with_reducible assumption) | assumption)
                                      obtain ⟨ad334, e334, hx334_0, hx334_1, hx334_2⟩ := at_T36 (Kd.R_reads' HO_10.out).2.2 x11_3 p334 q334
                                      cases e334
                                      replace p334 := eq_true p334
                                      replace q334 := eq_true q334
                                      have p335 : 0 ≤ ((ji32) : Int) := of_decide_eq_true (by first | (with_reducible assumption) | assumption)
                                      have q335 : (ji32) < (x7_2.length : Int) := of_decide_eq_true (by first | (with_reducible assumption) | assumption)
                                      obtain ⟨ad335, e335, hx335_0, hx335_1, hx335_2, hx335_3, hx335_4⟩ := at_T34 (Kd.R_reads' HO_7.out).2.2 (ji32) p335 q335
                                      cases e335
                                      replace p335 := eq_true p335
                                      replace q335 := eq_true q335
                                      have p342 : 0 ≤ (x11_3 : Int) := of_decide_eq_true (by first | (with_reducible assumption) | assumption)
                                      have q342 : x11_3 < (t331.length : Int) := of_decide_eq_true (by first | (with_reducible assumption) | assumption)
                                      obtain ⟨ad342, e342, hx342_0, hx342_1, hx342_2⟩ := at_T36 (Kd.R_reads' HO_10.out).2.2 x11_3 p342 q342
                                      obtain rfl : ad334 = ad342 := (by injection e342)
                                      replace p342 := eq_true p342
                                      replace q342 := eq_true q342
                                      go_wp2
                                      repeat (go_quiet (fail); try go_wp2)
                                      go_ret
                                      exact ⟨by first | rfl | (simp [errW_none, errW_some] <;> rfl) | (simp only [← hji32]; first | rfl | (simp [errW_none, errW_some] <;> rfl)) | (simp [*, errW_none, errW_some] <;> rfl) | (simp [errW_none, errW_some]; generalize ByteArray.toList _ = l_; cases l_ <;> rfl), by repeat (first | (with_reducible first | exact HB.out | apply below_alloc | apply pw_below_drewN | apply below_drew1) | exact HB.out)⟩
                                  · rw [if_neg c45] at H
                                    have c45b0 : (x11_3 == 0) = false := beq_eq_false_iff_ne.mpr c45
                                    have c45b1 : (x11_3 != 0) = true := bne_iff_ne.mpr c45
                                    have H' := Aside0.mk H
                                    clear H
                                    have p334 : 0 ≤ (x11_3 : Int) := of_decide_eq_true (by first | (with_reducible assumption) | assumption)
                                    have q334 : x11_3 < (t331.length : Int) := of_decide_eq_true (by first | (with_reducible assumption) | assumption)
                                    obtain ⟨ad334, e334, hx334_0, hx334_1, hx334_2⟩ := at_T36 (Kd.R_reads' HO_10.out).2.2 x11_3 p334 q334
                                    cases e334
                                    replace p334 := eq_true p334
                                    replace q334 := eq_true q334
                                    have p335 : 0 ≤ ((ji32) : Int) := of_decide_eq_true (by first | (with_reducible assumption) | assumption)
                                    have q335 : (ji32) < (x7_2.length : Int) := of_decide_eq_true (by first | (with_reducible assumption) | assumption)
                                    obtain ⟨ad335, e335, hx335_0, hx335_1, hx335_2, hx335_3, hx335_4⟩ := at_T34 (Kd.R_reads' HO_7.out).2.2 (ji32) p335 q335
                                    cases e335
                                    replace p335 := eq_true p335
                                    replace q335 := eq_true q335
                                    go_wp2
                                    repeat (go_quiet (fail); try go_wp2)
                                    go_roundg k3
                                    case measure => have := HJ4.out; have := HK2.out; have := HK3.out; omega
                                    case rel => exact ⟨(wrap64 (x11_3 + 1)), (by first | rfl | (simp; done) | (simp [*]; done)), H', ⟨by have := HJ4.out; have := HK2.out; have := HK3.out; omega⟩, ⟨by (with_reducible repeat (first | apply Kd.R_alloc | apply Kd.R_drewN | apply Kd.R_drew)); exact HO_7.out⟩, ⟨by (with_reducible repeat (first | apply Kd.R_alloc | apply Kd.R_drewN | apply Kd.R_drew)); exact HO_10.out⟩, ⟨by repeat (first | (with_reducible first | exact HB.out | apply below_alloc | apply pw_below_drewN | apply below_drew1) | exact HB.out)⟩⟩
                              · rw [if_neg c35] at H
                                have c35b0 : (((rd_T36 t331 x11_3).f0) == ((rd_T34 x7_2 (ji32)).f0)) = false := beq_eq_false_iff_ne.mpr c35
                                have c35b1 : (((rd_T36 t331 x11_3).f0) != ((rd_T34 x7_2 (ji32)).f0)) = true := bne_iff_ne.mpr c35
                                obtain rfl := Option.some.inj H
                                have p334 : 0 ≤ (x11_3 : Int) := of_decide_eq_true (by first | (with_reducible assumption) | assumption)
                                have q334 : x11_3 < (t331.length : Int) := of_decide_eq_true (by first | (with_reducible assumption) | assumption)
                                obtain ⟨ad334, e334, hx334_0, hx334_1, hx334_2⟩ := at_T36 (Kd.R_reads' HO_10.out).2.2 x11_3 p334 q334
                                cases e334
                                replace p334 := eq_true p334
                                replace q334 := eq_true q334
                                have p335 : 0 ≤ ((ji32) : Int) := of_decide_eq_true (by first | (with_reducible assumption) | assumption)
                                have q335 : (ji32) < (x7_2.length : Int) := of_decide_eq_true (by first | (with_reducible assumption) | assumption)
                                obtain ⟨ad335, e335, hx335_0, hx335_1, hx335_2, hx335_3, hx335_4⟩ := at_T34 (Kd.R_reads' HO_7.out).2.2 (ji32) p335 q335
                                cases e335
                                replace p335 := eq_true p335
                                replace q335 := eq_true q335
                                go_wp2
                                repeat (go_quiet (fail); try go_wp2)
                                go_ret
                                exact ⟨by first | rfl | (simp [errW_none, errW_some] <;> rfl) | (simp only [← hji32]; first | rfl | (simp [errW_none, errW_some] <;> rfl)) | (simp [*, errW_none, errW_some] <;> rfl) | (simp [errW_none, errW_some]; generalize ByteArray.toList _ = l_; cases l_ <;> rfl), by repeat (first | (with_reducible first | exact HB.out | apply below_alloc | apply pw_below_drewN | apply below_drew1) | exact HB.out)⟩
                            · rw [if_neg c34] at H
                              exact absurd H (by simp)
                          · rw [if_neg c33] at H
                            exact absurd H (by simp)
                        · rw [if_neg c31] at H
                          exact absurd H (by simp)
                      · rw [if_neg c30] at H
                        have c30b0 : decide (x11_3 < (t331.length : Int)) = false := decide_eq_false c30
                        clear c30
                        obtain rfl := Option.some.inj H
                        go_wp2
                        repeat (go_quiet (fail); try go_wp2)
                        go_ret
                        exact ⟨by first | rfl | (simp [errW_none, errW_some] <;> rfl) | (simp [*, errW_none, errW_some] <;> rfl) | (simp [errW_none, errW_some]; generalize ByteArray.toList _ = l_; cases l_ <;> rfl), by repeat (first | (with_reducible first | exact HB.out | apply below_alloc | apply pw_below_drewN | apply below_drew1) | exact HB.out)⟩
                · rw [if_neg c26] at H
                  have c26b0 : ((t331.length : Int) == (wrap64 (Int.tdiv (wrap64 ((wrap64 ((x7_2.length : Int) + a1)) - 1)) a1))) = false := beq_eq_false_iff_ne.mpr c26
                  have c26b1 : ((t331.length : Int) != (wrap64 (Int.tdiv (wrap64 ((wrap64 ((x7_2.length : Int) + a1)) - 1)) a1))) = true := bne_iff_ne.mpr c26
                  obtain rfl := Option.some.inj H
                  obtain ⟨Ao48, co48, eo48⟩ := Kd.R_slice HO_7.out
                  subst eo48
                  go_wp2_with (first | (go_at_call 14; (with_reducible refine (index_Make.calls k2 _ _ x7_2 a1 t331 _ ?side1 ?side2 A24.out).mono ?_); (case side1 => repeat (first | exact (Kd.R_reads' HO_7.out).2.2 | (with_reducible refine Kd.C_alloc ?_ _) | (with_reducible refine Kd.C_drewN ?_ _) | (with_reducible refine Kd.C_drew ?_))); (case side2 => exact (Kd.R_reads' HO_7.out).2.1); rintro e w49 ⟨v332, rfl, ho0, hb⟩; have n0_ := Aside0.mk (Kd.R_below (by (with_reducible repeat (first | apply Kd.R_alloc | apply Kd.R_drewN | apply Kd.R_drew)); exact HO_7.out) hb); have n1_ := Aside0.mk (Kd.R_lower ho0 (below_size (by repeat (first | (with_reducible first | exact HB.out | apply below_alloc | apply pw_below_drewN | apply below_drew1) | exact HB.out)))); have n2_ := Aside0.mk (below_step (by repeat (first | (with_reducible first | exact HB.out | apply below_alloc | apply pw_below_drewN | apply below_drew1) | exact HB.out)) hb); clear HO_7; clear HB; have HO_7 := n0_; have HO333 := n1_; have HB := n2_; clear n0_ n1_ n2_; (try clear hb); (try clear hb2); (try clear hk); (try clear hi); (try clear ho0); obtain ⟨Ao50, co50, eo50⟩ := Kd.R_slice HO333.out; subst eo50))
                  repeat (go_quiet (first | (go_at_call 14; (with_reducible refine (index_Make.calls k2 _ _ x7_2 a1 t331 _ ?side1 ?side2 A24.out).mono ?_); (case side1 => repeat (first | exact (Kd.R_reads' HO_7.out).2.2 | (with_reducible refine Kd.C_alloc ?_ _) | (with_reducible refine Kd.C_drewN ?_ _) | (with_reducible refine Kd.C_drew ?_))); (case side2 => exact (Kd.R_reads' HO_7.out).2.1); rintro e w49 ⟨v332, rfl, ho0, hb⟩; have n0_ := Aside0.mk (Kd.R_below (by (with_reducible repeat (first | apply Kd.R_alloc | apply Kd.R_drewN | apply Kd.R_drew)); exact HO_7.out) hb); have n1_ := Aside0.mk (Kd.R_lower ho0 (below_size (by repeat (first | (with_reducible first | exact HB.out | apply below_alloc | apply pw_below_drewN | apply below_drew1) | exact HB.out)))); have n2_ := Aside0.mk (below_step (by repeat (first | (with_reducible first | exact HB.out | apply below_alloc | apply pw_below_drewN | apply below_drew1) | exact HB.out)) hb); clear HO_7; clear HB; have HO_7 := n0_; have HO333 := n1_; have HB := n2_; clear n0_ n1_ n2_; (try clear hb); (try clear hb2); (try clear hk); (try clear hi); (try clear ho0); obtain ⟨Ao50, co50, eo50⟩ := Kd.R_slice HO333.out; subst eo50)); try go_wp2_with (first | (go_at_call 14; (with_reducible refine (index_Make.calls k2 _ _ x7_2 a1 t331 _ ?side1 ?side2 A24.out).mono ?_); (case side1 => repeat (first | exact (Kd.R_reads' HO_7.out).2.2 | (with_reducible refine Kd.C_alloc ?_ _) | (with_reducible refine Kd.C_drewN ?_ _) | (with_reducible refine Kd.C_drew ?_))); (case side2 => exact (Kd.R_reads' HO_7.out).2.1); rintro e w49 ⟨v332, rfl, ho0, hb⟩; have n0_ := Aside0.mk (Kd.R_below (by (with_reducible repeat (first | apply Kd.R_alloc | apply Kd.R_drewN | apply Kd.R_drew)); exact HO_7.out) hb); have n1_ := Aside0.mk (Kd.R_lower ho0 (below_size (by repeat (first | (with_reducible first | exact HB.out | apply below_alloc | apply pw_below_drewN | apply below_drew1) | exact HB.out)))); have n2_ := Aside0.mk (below_step (by repeat (first | (with_reducible first | exact HB.out | apply below_alloc | apply pw_below_drewN | apply below_drew1) | exact HB.out)) hb); clear HO_7; clear HB; have HO_7 := n0_; have HO333 := n1_; have HB := n2_; clear n0_ n1_ n2_; (try clear hb); (try clear hb2); (try clear hk); (try clear hi); (try clear ho0); obtain ⟨Ao50, co50, eo50⟩ := Kd.R_slice HO333.out; subst eo50)))
                  go_ret
                  exact ⟨by first | rfl | (simp [errW_none, errW_some] <;> rfl) | (simp [*, errW_none, errW_some] <;> rfl) | (simp [errW_none, errW_some]; generalize ByteArray.toList _ = l_; cases l_ <;> rfl), by repeat (first | (with_reducible first | exact HB.out | apply below_alloc | apply pw_below_drewN | apply below_drew1) | exact HB.out)⟩

end Go.Proofs.Ytphnolgneojdhaa.S

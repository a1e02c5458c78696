-- printed by a program of this session (a changed copy of the kit's printer)
import Derived.Test.YtpafbpfcoacidaaFx0
import Derived.Test.YtpafbpfcoacidaaFx1
import Derived.Test.YtpafbpfcoacidaaFx2
import Derived.Test.YtpafbpfcoacidaaFx5
import Derived.Test.YtpafbpfcoacidaaFx6
namespace Go.Proofs.Ytpafbpfcoacidaa.F
open Go.RowKit Go.Proofs.YtpafbpfcoacidaaW.PrintWords Go.Proofs.YtpafbpfcoacidaaW.PrintLast Go.Proofs.YtpafbpfcoacidaaW.PrintMore
attribute [local go_sem] max2_int min2_int max_two min_two max_three min_three max_four min_four   -- for this text's walks alone
set_option linter.unusedVariables false
set_option linter.unusedSimpArgs false

/-! ### cooperagelaw5_FrameTorn: function 7 -/
mutual
def cooperagelaw5_FrameTorn.j0 : Nat → List (List Int) → Int → Bool → Bool → Option (Bool)
  | 0, _, _, _, _ => none
  | k + 1, x0, x1, x5, x30 => if x30 = true then (some x5) else (cooperagelaw5_FrameTorn.l0 k x0 x1 ([] : List Int) 0 0)
def cooperagelaw5_FrameTorn.l0 : Nat → List (List Int) → Int → List Int → Int → Int → Option (Bool)
  | 0, _, _, _, _, _ => none
  | k + 1, x0, x1, x6, x7, x8 => if x8 < (x0.length : Int) then (if 0 ≤ x8 then (if ((rd_L1 x0 x8).length : Int) > 100 then (some true) else ((cooperageref1_PutFrame.f k ([] : List Int) (rd_L1 x0 x8)).bind fun t267 => (if x6.length + t267.length < 140737488355328 then (cooperagelaw5_FrameTorn.l0 k x0 x1 (x6 ++ t267) (x6.length : Int) (wrap64 (x8 + 1))) else (none)))) else (none)) else (if (wrap64 ((x6.length : Int) - x7)) = 0 then (none) else ((frame_All.f k x6).bind fun bt273 => (if 0 ≤ (wrap64 ((wrap64 ((x6.length : Int) - 1)) - (Int.tmod (wrap64 (x1 - 1)) (wrap64 ((x6.length : Int) - x7))))) then (if (wrap64 ((wrap64 ((x6.length : Int) - 1)) - (Int.tmod (wrap64 (x1 - 1)) (wrap64 ((x6.length : Int) - x7))))) ≤ (x6.length : Int) then ((frame_All.f k (x6.take ((wrap64 ((wrap64 ((x6.length : Int) - 1)) - (Int.tmod (wrap64 (x1 - 1)) (wrap64 ((x6.length : Int) - x7))))) : Int).toNat)).bind fun bt281 => ((cooperagelaw5_samePieces.f k bt273.1 x0).bind fun t285 => (if t285 = true then (if bt273.2 = (x6.length : Int) then (if 0 ≤ (wrap64 ((x0.length : Int) - 1)) then (if (wrap64 ((x0.length : Int) - 1)) ≤ (x0.length : Int) then ((cooperagelaw5_samePieces.f k bt281.1 (x0.take ((wrap64 ((x0.length : Int) - 1)) : Int).toNat)).bind fun t290 => (if t290 = true then (some (bt281.2 == x7)) else (some false))) else (none)) else (none)) else (some false)) else (some false)))) else (none)) else (none))))
end
def cooperagelaw5_FrameTorn.f (k : Nat) (l0 : List (List Int)) (a1 : Int) : Option (Bool) := (cooperagelaw5_alive.f k).bind fun t264 => (if t264 = true then (if (l0.length : Int) < 1 then (cooperagelaw5_FrameTorn.j0 k l0 a1 t264 true) else (if (l0.length : Int) > 20 then (cooperagelaw5_FrameTorn.j0 k l0 a1 t264 true) else (cooperagelaw5_FrameTorn.j0 k l0 a1 t264 (decide (a1 < 1))))) else (cooperagelaw5_FrameTorn.j0 k l0 a1 t264 true))
theorem cooperagelaw5_FrameTorn.mono_l : ∀ k, (∀ y0 y1 y2 y3, LeO (cooperagelaw5_FrameTorn.j0 k y0 y1 y2 y3) (cooperagelaw5_FrameTorn.j0 (k + 1) y0 y1 y2 y3)) ∧ (∀ y0 y1 y2 y3 y4, LeO (cooperagelaw5_FrameTorn.l0 k y0 y1 y2 y3 y4) (cooperagelaw5_FrameTorn.l0 (k + 1) y0 y1 y2 y3 y4))
  | 0 => ⟨fun _ _ _ _ r h => by simp [cooperagelaw5_FrameTorn.j0] at h, fun _ _ _ _ _ r h => by simp [cooperagelaw5_FrameTorn.l0] at h⟩
  | k + 1 => by
    obtain ⟨ih0, ih1⟩ := cooperagelaw5_FrameTorn.mono_l k
    refine ⟨?_, ?_⟩
    · intro y0 y1 y2 y3
      unfold cooperagelaw5_FrameTorn.j0
      repeat' first
      | (with_reducible exact ih0 _ _ _ _)
      | (with_reducible exact ih1 _ _ _ _ _)
      | (with_reducible exact cooperagelaw5_alive.mono _)
      | (with_reducible exact cooperagelaw5_samePieces.mono _ _ _)
      | (with_reducible exact cooperageref1_PutFrame.mono _ _ _)
      | (with_reducible exact frame_All.mono _ _)
      | (with_reducible exact LeO.refl _)
      | (with_reducible exact LeO.none _)
      | (with_reducible refine LeO.ite ?_ ?_)
      | (with_reducible refine LeO.bind ?_ (fun _ => ?_))
      | exact ih0 _ _ _ _
      | exact ih1 _ _ _ _ _
      | exact cooperagelaw5_alive.mono _
      | exact cooperagelaw5_samePieces.mono _ _ _
      | exact cooperageref1_PutFrame.mono _ _ _
      | exact frame_All.mono _ _
      | exact LeO.none _
      | refine LeO.ite ?_ ?_
      | refine LeO.bind ?_ (fun _ => ?_)
    · intro y0 y1 y2 y3 y4
      unfold cooperagelaw5_FrameTorn.l0
      repeat' first
      | (with_reducible exact ih0 _ _ _ _)
      | (with_reducible exact ih1 _ _ _ _ _)
      | (with_reducible exact cooperagelaw5_alive.mono _)
      | (with_reducible exact cooperagelaw5_samePieces.mono _ _ _)
      | (with_reducible exact cooperageref1_PutFrame.mono _ _ _)
      | (with_reducible exact frame_All.mono _ _)
      | (with_reducible exact LeO.refl _)
      | (with_reducible exact LeO.none _)
      | (with_reducible refine LeO.ite ?_ ?_)
      | (with_reducible refine LeO.bind ?_ (fun _ => ?_))
      | exact ih0 _ _ _ _
      | exact ih1 _ _ _ _ _
      | exact cooperagelaw5_alive.mono _
      | exact cooperagelaw5_samePieces.mono _ _ _
      | exact cooperageref1_PutFrame.mono _ _ _
      | exact frame_All.mono _ _
      | exact LeO.none _
      | refine LeO.ite ?_ ?_
      | refine LeO.bind ?_ (fun _ => ?_)
theorem cooperagelaw5_FrameTorn.mono : ∀ a0 a1 k, LeO (cooperagelaw5_FrameTorn.f k a0 a1) (cooperagelaw5_FrameTorn.f (k + 1) a0 a1) := by
  intro a0 a1 k
  obtain ⟨ih0, ih1⟩ := cooperagelaw5_FrameTorn.mono_l k
  unfold cooperagelaw5_FrameTorn.f
  repeat' first
      | (with_reducible exact ih0 _ _ _ _)
      | (with_reducible exact ih1 _ _ _ _ _)
      | (with_reducible exact cooperagelaw5_alive.mono _)
      | (with_reducible exact cooperagelaw5_samePieces.mono _ _ _)
      | (with_reducible exact cooperageref1_PutFrame.mono _ _ _)
      | (with_reducible exact frame_All.mono _ _)
      | (with_reducible exact LeO.refl _)
      | (with_reducible exact LeO.none _)
      | (with_reducible refine LeO.ite ?_ ?_)
      | (with_reducible refine LeO.bind ?_ (fun _ => ?_))
      | exact ih0 _ _ _ _
      | exact ih1 _ _ _ _ _
      | exact cooperagelaw5_alive.mono _
      | exact cooperagelaw5_samePieces.mono _ _ _
      | exact cooperageref1_PutFrame.mono _ _ _
      | exact frame_All.mono _ _
      | exact LeO.none _
      | refine LeO.ite ?_ ?_
      | refine LeO.bind ?_ (fun _ => ?_)
set_option maxHeartbeats 8000000 in
set_option maxRecDepth 100000 in
theorem cooperagelaw5_FrameTorn.calls (k : Nat) (A0 : Option Addr) (c0 : Nat) (l0 : List (List Int)) (a1 : Int) (r : Bool) (w : World) (hr0 : Kd.C (Kd.slice 5 (Kd.int .u8)) w A0 l0.length l0) (hc0 : l0.length ≤ c0) (h : cooperagelaw5_FrameTorn.f k l0 a1 = some r) :
    Calls Try.prog 7 #[.slice A0 l0.length c0, .int .i64 a1] w fun e w' => e = .returned (.bool r) ∧ Below w.heap.size w w' := by
  have HR0 := Aside0.mk hr0
  have HC0 := Aside0.mk hc0
  clear hr0 hc0
  have HB := Aside0.mk (Below.refl w.heap.size w)
  have H : ((cooperagelaw5_alive.f k).bind fun t264 => (if t264 = true then (if (l0.length : Int) < 1 then (cooperagelaw5_FrameTorn.j0 k l0 a1 t264 true) else (if (l0.length : Int) > 20 then (cooperagelaw5_FrameTorn.j0 k l0 a1 t264 true) else (cooperagelaw5_FrameTorn.j0 k l0 a1 t264 (decide (a1 < 1))))) else (cooperagelaw5_FrameTorn.j0 k l0 a1 t264 true))) = some r := h
  clear h
  replace H := Option.bind_eq_some_iff.mp H
  obtain ⟨t264, A30, H⟩ := H
  replace H : (if t264 = true then (if (l0.length : Int) < 1 then (cooperagelaw5_FrameTorn.j0 k l0 a1 t264 true) else (if (l0.length : Int) > 20 then (cooperagelaw5_FrameTorn.j0 k l0 a1 t264 true) else (cooperagelaw5_FrameTorn.j0 k l0 a1 t264 (decide (a1 < 1))))) else (cooperagelaw5_FrameTorn.j0 k l0 a1 t264 true)) = some r := H
  have A3 := Aside0.mk A30
  clear A30
  have HC4 := Aside0.mk H
  clear H
  go_enter Try.func7, Try.ntmps7
  go_upto_region 2 with (first | ((with_reducible refine gate_callee (f := 16) rfl ?_); refine goesL_ (some 14) rfl rfl Try.func16 (by kernel_rfl) rfl #[] rfl (by (try simp only [List.map_toArray, List.map_cons, List.map_nil]); first | done | rfl | (simp only [List.length_drop, List.length_take]; rfl)) ?_; (with_reducible refine (cooperagelaw5_alive.calls k  t264 _ A3.out).mono ?_); rintro e w5 ⟨rfl, hb⟩; refine ⟨_, rfl, ?_⟩; have n0_ := Aside0.mk (below_step (by repeat (first | (with_reducible first | exact HB.out | apply below_alloc | apply pw_below_drewN | apply below_drew1) | exact HB.out)) hb); clear HB; have HB := n0_; clear n0_; (try clear hb); (try clear hb2); (try clear hk); (try clear hi)))
  (try simp only [Act.put, List.setIfInBounds_toArray, List.set_cons_zero, List.set_cons_succ])
  go_cut [30] (fun v30 wc => ∃ (kq : Nat) (x30_3 : Bool), v30 = .bool x30_3 ∧ Aside0 (cooperagelaw5_FrameTorn.j0 kq l0 a1 t264 x30_3 = some r) ∧ Aside0 (kq ≤ k) ∧ Aside0 (Below w.heap.size w wc))
  case first =>
    have H := HC4.out
    clear HC4
    by_cases c6 : t264 = true
    · subst c6
      have H1 : (if (l0.length : Int) < 1 then (cooperagelaw5_FrameTorn.j0 k l0 a1 true true) else (if (l0.length : Int) > 20 then (cooperagelaw5_FrameTorn.j0 k l0 a1 true true) else (cooperagelaw5_FrameTorn.j0 k l0 a1 true (decide (a1 < 1))))) = some r := by rw [if_pos rfl] at H; exact H
      clear H
      have H := H1
      clear H1
      by_cases c7 : (l0.length : Int) < 1
      · rw [if_pos c7] at H
        have c7b0 : decide ((l0.length : Int) < 1) = true := decide_eq_true c7
        have c7b1 : decide (l0.length < 1) = true := decide_eq_true (by omega)
        clear c7
        (first | rw [c7b0] | (simp only [i64_w, i32_w]; rw [c7b0]) | skip)
        have H' := Aside0.mk H
        clear H
        go_wp2
        go_meet
        case rel => exact ⟨_, (true), (by first | rfl | (simp; done) | (simp [*]; done)), H', ⟨by first | omega | exact Nat.le_refl _⟩, ⟨by repeat (first | (with_reducible first | exact HB.out | apply below_alloc | apply pw_below_drewN | apply below_drew1) | exact HB.out)⟩⟩
      · rw [if_neg c7] at H
        have c7b0 : decide ((l0.length : Int) < 1) = false := decide_eq_false c7
        have c7b1 : decide (l0.length < 1) = false := decide_eq_false (by omega)
        clear c7
        (first | rw [c7b0] | (simp only [i64_w, i32_w]; rw [c7b0]) | skip)
        by_cases c8 : (l0.length : Int) > 20
        · rw [if_pos c8] at H
          have c8b0 : decide (20 < (l0.length : Int)) = true := decide_eq_true c8
          have c8b1 : decide (20 < l0.length) = true := decide_eq_true (by omega)
          clear c8
          have H' := Aside0.mk H
          clear H
          go_wp2
          go_meet
          case rel => exact ⟨_, (true), (by first | rfl | (simp; done) | (simp [*]; done)), H', ⟨by first | omega | exact Nat.le_refl _⟩, ⟨by repeat (first | (with_reducible first | exact HB.out | apply below_alloc | apply pw_below_drewN | apply below_drew1) | exact HB.out)⟩⟩
        · rw [if_neg c8] at H
          have c8b0 : decide (20 < (l0.length : Int)) = false := decide_eq_false c8
          have c8b1 : decide (20 < l0.length) = false := decide_eq_false (by omega)
          clear c8
          have H' := Aside0.mk H
          clear H
          go_wp2
          go_meet
          case rel => exact ⟨_, (decide (a1 < 1)), (by first | rfl | (simp; done) | (simp [*]; done)), H', ⟨by first | omega | exact Nat.le_refl _⟩, ⟨by repeat (first | (with_reducible first | exact HB.out | apply below_alloc | apply pw_below_drewN | apply below_drew1) | exact HB.out)⟩⟩
    · replace c6 := Bool.eq_false_iff.mpr c6
      subst c6
      have H1 : (cooperagelaw5_FrameTorn.j0 k l0 a1 false true) = some r := by rw [if_neg (show ¬ (false = true) by decide)] at H; exact H
      clear H
      have H := H1
      clear H1
      have H' := Aside0.mk H
      clear H
      go_wp2
      go_meet
      case rel => exact ⟨_, (true), (by first | rfl | (simp; done) | (simp [*]; done)), H', ⟨by first | omega | exact Nat.le_refl _⟩, ⟨by repeat (first | (with_reducible first | exact HB.out | apply below_alloc | apply pw_below_drewN | apply below_drew1) | exact HB.out)⟩⟩
  case rest =>
    clear HC4
    try clear c1
    try clear p2
    try clear c6
    try clear c7
    try clear c7b0
    try clear c7b1
    try clear c8
    try clear c8b0
    try clear c8b1
    obtain ⟨kq, x30_3, rfl, HA, HJ3, HB⟩ := hcut
    cases kq with
    | zero => exact absurd HA.out (by simp [cooperagelaw5_FrameTorn.j0])
    | succ kj3 =>
      have H := HA.out
      clear HA
      simp only [cooperagelaw5_FrameTorn.j0] at H
      by_cases c9 : x30_3 = true
      · subst c9
        have H1 : (some t264) = some r := by rw [if_pos rfl] at H; exact H
        clear H
        have H := H1
        clear H1
        obtain rfl := Option.some.inj H
        go_wp2
        go_ret
        exact ⟨by first | rfl | (simp [errW_none, errW_some] <;> rfl) | (simp [*, errW_none, errW_some] <;> rfl) | (simp [errW_none, errW_some]; generalize ByteArray.toList _ = l_; cases l_ <;> rfl), by repeat (first | (with_reducible first | exact HB.out | apply below_alloc | apply pw_below_drewN | apply below_drew1) | exact HB.out)⟩
      · replace c9 := Bool.eq_false_iff.mpr c9
        subst c9
        have H1 : (cooperagelaw5_FrameTorn.l0 kj3 l0 a1 ([] : List Int) 0 0) = some r := by rw [if_neg (show ¬ (false = true) by decide)] at H; exact H
        clear H
        have H := H1
        clear H1
        have H' := Aside0.mk H
        clear H
        go_wp2
        go_loopg [6, 7, 8] kj3 (fun kq v6 v7 v8 w' => ∃ (x6_2 : List Int) (x7_2 : Int) (x8_2 : Int), v7 = .int .i64 x7_2 ∧ v8 = .int .i64 x8_2 ∧ Aside0 (cooperagelaw5_FrameTorn.l0 kq l0 a1 x6_2 x7_2 x8_2 = some r) ∧ Aside0 (kq ≤ kj3) ∧ Aside0 (Kd.R (Kd.int .u8) 5 w' w.heap.size (fun _ => True) v6 x6_2) ∧ Aside0 (Below w.heap.size w w'))
        case atStart => exact ⟨(([] : List Int)), (0), (0), (by first | rfl | (simp; done) | (simp [*]; done)), (by first | rfl | (simp; done) | (simp [*]; done)), H', ⟨Nat.le_refl _⟩, ⟨by first | exact Kd.R_nil _ _ _ _ _ | exact Kd.N_nil _ _ _ _ _ | exact Kd.V_nil _ _ _ _ _ | exact Kd.Q_nil _ _ _ _ _ | exact Kd.S_nil _ _ _ _ _⟩, ⟨by repeat (first | (with_reducible first | exact HB.out | apply below_alloc | apply pw_below_drewN | apply below_drew1) | exact HB.out)⟩⟩
        case round =>
          clear H'
          try clear c1
          try clear p2
          try clear c6
          try clear c7
          try clear c7b0
          try clear c7b1
          try clear c8
          try clear c8b0
          try clear c8b1
          try clear c9
          try clear p2
          obtain ⟨x6_2, x7_2, x8_2, rfl, rfl, HA, HK2, HO_6, HB⟩ := hrel
          cases gk with
          | zero => exact absurd HA.out (by simp [cooperagelaw5_FrameTorn.l0])
          | succ k2 =>
            have H := HA.out
            clear HA
            simp only [cooperagelaw5_FrameTorn.l0] at H
            by_cases c10 : x8_2 < (l0.length : Int)
            · rw [if_pos c10] at H
              have c10b0 : decide (x8_2 < (l0.length : Int)) = true := decide_eq_true c10
              clear c10
              by_cases c11 : 0 ≤ x8_2
              · rw [if_pos c11] at H
                have c11b0 : decide (0 ≤ x8_2) = true := decide_eq_true c11
                clear c11
                by_cases c12 : ((rd_L1 l0 x8_2).length : Int) > 100
                · rw [if_pos c12] at H
                  have c12b0 : decide (100 < ((rd_L1 l0 x8_2).length : Int)) = true := decide_eq_true c12
                  have c12b1 : decide (100 < (rd_L1 l0 x8_2).length) = true := decide_eq_true (by omega)
                  clear c12
                  obtain rfl := Option.some.inj H
                  have p265 : 0 ≤ (x8_2 : Int) := of_decide_eq_true (by first | (with_reducible assumption) | assumption)
                  have q265 : x8_2 < (l0.length : Int) := of_decide_eq_true (by first | (with_reducible assumption) | assumption)
                  obtain ⟨ad265, A265_0, c265_0, e265, hx265_0, hl265_0, hi265_0⟩ := at_L1 HR0.out x8_2 p265 q265
                  cases e265
                  replace hx265_0 := (HB.out.cell (World.block_lt_of_cell? w _ hx265_0)).trans hx265_0
                  have HR265_0 := Aside0.mk hi265_0
                  have HC265_0 := Aside0.mk hl265_0
                  clear hi265_0 hl265_0
                  replace p265 := eq_true p265
                  replace q265 := eq_true q265
                  go_wp2
                  go_ret
                  exact ⟨by first | rfl | (simp [errW_none, errW_some] <;> rfl) | (simp [*, errW_none, errW_some] <;> rfl) | (simp [errW_none, errW_some]; generalize ByteArray.toList _ = l_; cases l_ <;> rfl), by repeat (first | (with_reducible first | exact HB.out | apply below_alloc | apply pw_below_drewN | apply below_drew1) | exact HB.out)⟩
                · rw [if_neg c12] at H
                  have c12b0 : decide (100 < ((rd_L1 l0 x8_2).length : Int)) = false := decide_eq_false c12
                  have c12b1 : decide (100 < (rd_L1 l0 x8_2).length) = false := decide_eq_false (by omega)
                  clear c12
                  replace H := Option.bind_eq_some_iff.mp H
                  obtain ⟨t267, A130, H⟩ := H
                  replace H : (if x6_2.length + t267.length < 140737488355328 then (cooperagelaw5_FrameTorn.l0 k2 l0 a1 (x6_2 ++ t267) (x6_2.length : Int) (wrap64 (x8_2 + 1))) else (none)) = some r := H
                  have A13 := Aside0.mk A130
                  clear A130
                  by_cases c14 : x6_2.length + t267.length < 140737488355328
                  · rw [if_pos c14] at H
                    have LMc14 := Aside0.mk c14
                    clear c14
                    obtain ⟨y270, hy270⟩ : ∃ y_ : List Int, y_ = (x6_2 ++ t267) := ⟨_, rfl⟩
                    replace H : (cooperagelaw5_FrameTorn.l0 k2 l0 a1 y270 (x6_2.length : Int) (wrap64 (x8_2 + 1))) = some r := by first | (rw [hy270]; with_reducible exact H) | (have H2_ := (Option.bind_some _ _).symm.trans H; rw [hy270]; with_reducible exact H2_) | (have H2_ := (Option.bind_some _ _).symm.trans H; with_reducible exact H2_) | with_reducible exact H | (rw [hy270]; exact H) | exact H
                    have Ny270 := Aside0.mk hy270
                    clear hy270
                    have H' := Aside0.mk H
                    clear H
                    have p265 : 0 ≤ (x8_2 : Int) := of_decide_eq_true (by first | (with_reducible assumption) | assumption)
                    have q265 : x8_2 < (l0.length : Int) := of_decide_eq_true (by first | (with_reducible assumption) | assumption)
                    obtain ⟨ad265, A265_0, c265_0, e265, hx265_0, hl265_0, hi265_0⟩ := at_L1 HR0.out x8_2 p265 q265
                    cases e265
                    replace hx265_0 := (HB.out.cell (World.block_lt_of_cell? w _ hx265_0)).trans hx265_0
                    have HR265_0 := Aside0.mk hi265_0
                    have HC265_0 := Aside0.mk hl265_0
                    clear hi265_0 hl265_0
                    replace p265 := eq_true p265
                    replace q265 := eq_true q265
                    obtain ⟨Ao15, co15, eo15⟩ := Kd.R_slice HO_6.out
                    subst eo15
                    have p266 : 0 ≤ (x8_2 : Int) := of_decide_eq_true (by first | (with_reducible assumption) | assumption)
                    have q266 : x8_2 < (l0.length : Int) := of_decide_eq_true (by first | (with_reducible assumption) | assumption)
                    obtain ⟨ad266, A266_0, c266_0, e266, hx266_0, hl266_0, hi266_0⟩ := at_L1 HR0.out x8_2 p266 q266
                    obtain rfl : ad265 = ad266 := (by injection e266)
                    replace hx266_0 := (HB.out.cell (World.block_lt_of_cell? w _ hx266_0)).trans hx266_0
                    have HR266_0 := Aside0.mk hi266_0
                    have HC266_0 := Aside0.mk hl266_0
                    clear hi266_0 hl266_0
                    replace p266 := eq_true p266
                    replace q266 := eq_true q266
                    have ea_ := Option.some.inj (hx265_0.symm.trans hx266_0)
                    injection ea_ with ea_ en_ ec_
                    subst ea_
                    subst ec_
                    clear en_
                    go_wp2_with (first | ((with_reducible refine gate_callee (f := 18) rfl ?_); refine goesL_ (some 51) rfl rfl Try.func18 (by kernel_rfl) rfl #[.slice none 0 0, .slice A265_0 (rd_L1 l0 x8_2).length c265_0] rfl (by (try simp only [List.map_toArray, List.map_cons, List.map_nil]); first | done | rfl | (simp only [List.length_drop, List.length_take]; rfl)) ?_; (refine (cooperageref1_PutFrame.calls k2 _ _ ([] : List Int) _ _ (rd_L1 l0 x8_2) t267 _ ?side1 ?side2 ?side3 ?side4 A13.out).mono ?_); (case side1 => exact Kd.C_nil _ _); (case side2 => exact Nat.le_refl _); (case side3 => repeat (first | exact (Kd.C_below HR266_0.out HB.out) | (with_reducible refine Kd.C_alloc ?_ _) | (with_reducible refine Kd.C_drewN ?_ _) | (with_reducible refine Kd.C_drew ?_))); (case side4 => exact HC266_0.out); rintro e w16 ⟨v268, rfl, ho0, hb⟩; refine ⟨_, rfl, ?_⟩; have n0_ := Aside0.mk (Kd.R_elder' (by (with_reducible repeat (first | apply Kd.R_alloc | apply Kd.R_drewN | apply Kd.R_drew)); exact HO_6.out) (Kd.R_base ho0) hb); have n1_ := Aside0.mk (Kd.R_lower (Kd.R_new' ho0 (Kd.R_lt (by (with_reducible repeat (first | apply Kd.R_alloc | apply Kd.R_drewN | apply Kd.R_drew)); exact HO_6.out))) (below_size (by repeat (first | (with_reducible first | exact HB.out | apply below_alloc | apply pw_below_drewN | apply below_drew1) | exact HB.out)))); have n2_ := Aside0.mk (below_step (by repeat (first | (with_reducible first | exact HB.out | apply below_alloc | apply pw_below_drewN | apply below_drew1) | exact HB.out)) hb); clear HO_6; clear HB; have HO_6 := n0_; have HO269 := n1_; have HB := n2_; clear n0_ n1_ n2_; (try clear hb); (try clear hb2); (try clear hk); (try clear hi); (try clear ho0); obtain ⟨Ao18, co18, eo18⟩ := Kd.R_slice HO269.out; subst eo18) | ((with_reducible refine gate_builtin (b := .append) (xs := #[(.tmp 46), .tmp 51]) rfl ?_); (try (refine gate_guard (by rfl) ?_; dsimp only)); at_builtin; refine Kd.R_append_rows (Kd.int .u8) (w0 := w) w.heap.size rfl (.tmp 46) (.tmp 51) 30 5 (.int .u8 0) 1 rfl Try.underlying30 info5 rfl (by decide) (by omega) (.slice Ao15 x6_2.length co15) x6_2 t267 _ _ _ (fun k_ => some k_ ≠ (.slice Ao18 t267.length co18 : Value).ownBlock) (fun _ => False) rfl rfl ?aO ?aR (fun _ _ h => h) (fun _ h => h.elim) ?aF ?aB ?aS ?aL ?_; (case aR => repeat (first | exact (Kd.R_reads' HO269.out).2.2 | (with_reducible refine Kd.C_alloc ?_ _) | (with_reducible refine Kd.C_drewN ?_ _) | (with_reducible refine Kd.C_drew ?_))); (case aB => exact (by repeat (first | (with_reducible first | exact HB.out | apply below_alloc | apply pw_below_drewN | apply below_drew1) | exact HB.out))); (case aF => exact (fun k_ hk => Kd.fresh' (Kd.R_lt (by (with_reducible repeat (first | apply Kd.R_alloc | apply Kd.R_drewN | apply Kd.R_drew)); exact HO269.out)) k_ hk)); (case aO => exact (by (with_reducible repeat (first | apply Kd.R_alloc | apply Kd.R_drewN | apply Kd.R_drew)); exact Kd.R_mono HO_6.out (fun _ hk => hk.2))); (case aS => exact (below_size (by repeat (first | (with_reducible first | exact HB.out | apply below_alloc | apply pw_below_drewN | apply below_drew1) | exact HB.out)))); (case aL => have := LMc14.out; omega); intro v271 w17 ho hb hg hat; rw [← Ny270.out] at ho; have n0_ := Aside0.mk (Kd.R_after (ok := (fun _ => True)) (by (with_reducible repeat (first | apply Kd.R_alloc | apply Kd.R_drewN | apply Kd.R_drew)); exact HO269.out) hg hat); have n1_ := Aside0.mk (hb); have n2_ := Aside0.mk (ho); clear HO269; clear HB; clear HO_6; have HO269 := n0_; have HB := n1_; have HO272 := n2_; clear n0_ n1_ n2_; clear ho hb hg hat))
                    go_roundg k2
                    case measure => have := HJ3.out; have := HK2.out; omega
                    case rel => exact ⟨(y270), ((x6_2.length : Int)), (wrap64 (x8_2 + 1)), (by first | rfl | (simp; done) | (simp [*]; done)), (by first | rfl | (simp; done) | (simp [*]; done)), H', ⟨by have := HJ3.out; have := HK2.out; omega⟩, ⟨by (with_reducible repeat (first | apply Kd.R_alloc | apply Kd.R_drewN | apply Kd.R_drew)); exact Kd.R_mono HO272.out (fun _ hk => trivial)⟩, ⟨by repeat (first | (with_reducible first | exact HB.out | apply below_alloc | apply pw_below_drewN | apply below_drew1) | exact HB.out)⟩⟩
                  · rw [if_neg c14] at H
                    exact absurd H (by simp)
              · rw [if_neg c11] at H
                exact absurd H (by simp)
            · rw [if_neg c10] at H
              have c10b0 : decide (x8_2 < (l0.length : Int)) = false := decide_eq_false c10
              clear c10
              by_cases c19 : (wrap64 ((x6_2.length : Int) - x7_2)) = 0
              · rw [if_pos c19] at H
                exact absurd H (by simp)
              · rw [if_neg c19] at H
                have c19b0 : ((wrap64 ((x6_2.length : Int) - x7_2)) == 0) = false := beq_eq_false_iff_ne.mpr c19
                have c19b1 : ((wrap64 ((x6_2.length : Int) - x7_2)) != 0) = true := bne_iff_ne.mpr c19
                replace H := Option.bind_eq_some_iff.mp H
                obtain ⟨⟨t273, t274⟩, A200, H⟩ := H
                replace H : (if 0 ≤ (wrap64 ((wrap64 ((x6_2.length : Int) - 1)) - (Int.tmod (wrap64 (a1 - 1)) (wrap64 ((x6_2.length : Int) - x7_2))))) then (if (wrap64 ((wrap64 ((x6_2.length : Int) - 1)) - (Int.tmod (wrap64 (a1 - 1)) (wrap64 ((x6_2.length : Int) - x7_2))))) ≤ (x6_2.length : Int) then ((frame_All.f k2 (x6_2.take ((wrap64 ((wrap64 ((x6_2.length : Int) - 1)) - (Int.tmod (wrap64 (a1 - 1)) (wrap64 ((x6_2.length : Int) - x7_2))))) : Int).toNat)).bind fun bt281 => ((cooperagelaw5_samePieces.f k2 t273 l0).bind fun t285 => (if t285 = true then (if t274 = (x6_2.length : Int) then (if 0 ≤ (wrap64 ((l0.length : Int) - 1)) then (if (wrap64 ((l0.length : Int) - 1)) ≤ (l0.length : Int) then ((cooperagelaw5_samePieces.f k2 bt281.1 (l0.take ((wrap64 ((l0.length : Int) - 1)) : Int).toNat)).bind fun t290 => (if t290 = true then (some (bt281.2 == x7_2)) else (some false))) else (none)) else (none)) else (some false)) else (some false)))) else (none)) else (none)) = some r := H
                have A20 := Aside0.mk A200
                clear A200
                obtain ⟨ji21, hji21⟩ : ∃ j_ : Int, (wrap64 ((wrap64 ((x6_2.length : Int) - 1)) - (Int.tmod (wrap64 (a1 - 1)) (wrap64 ((x6_2.length : Int) - x7_2))))) = j_ := ⟨_, rfl⟩
                replace H : (if 0 ≤ (ji21) then (if (ji21) ≤ (x6_2.length : Int) then ((frame_All.f k2 (x6_2.take ((ji21) : Int).toNat)).bind fun bt281 => ((cooperagelaw5_samePieces.f k2 t273 l0).bind fun t285 => (if t285 = true then (if t274 = (x6_2.length : Int) then (if 0 ≤ (wrap64 ((l0.length : Int) - 1)) then (if (wrap64 ((l0.length : Int) - 1)) ≤ (l0.length : Int) then ((cooperagelaw5_samePieces.f k2 bt281.1 (l0.take ((wrap64 ((l0.length : Int) - 1)) : Int).toNat)).bind fun t290 => (if t290 = true then (some (bt281.2 == x7_2)) else (some false))) else (none)) else (none)) else (some false)) else (some false)))) else (none)) else (none)) = some r := by first | (rw [hji21] at H; exact H) | (simp only [hji21] at H ⊢; exact H)
                (try rw [hji21] at A20)
                have hji21w : (IntKind.i64.wrap ((wrap64 ((x6_2.length : Int) - 1)) - (Int.tmod (wrap64 (a1 - 1)) (wrap64 ((x6_2.length : Int) - x7_2))))) = ji21 := (i64_w _).trans hji21
                by_cases c22 : 0 ≤ (ji21)
                · rw [if_pos c22] at H
                  have c22b0 := eq_true c22
                  have c22b1 : decide (0 ≤ (ji21)) = true := decide_eq_true c22
                  clear c22
                  by_cases c23 : (ji21) ≤ (x6_2.length : Int)
                  · rw [if_pos c23] at H
                    have c23b0 := eq_true c23
                    have c23b1 : decide ((ji21) ≤ (x6_2.length : Int)) = true := decide_eq_true c23
                    clear c23
                    obtain ⟨y277, hy277⟩ : ∃ y_ : List Int, y_ = (x6_2.take ((ji21) : Int).toNat) := ⟨_, rfl⟩
                    replace H : ((frame_All.f k2 y277).bind fun bt281 => ((cooperagelaw5_samePieces.f k2 t273 l0).bind fun t285 => (if t285 = true then (if t274 = (x6_2.length : Int) then (if 0 ≤ (wrap64 ((l0.length : Int) - 1)) then (if (wrap64 ((l0.length : Int) - 1)) ≤ (l0.length : Int) then ((cooperagelaw5_samePieces.f k2 bt281.1 (l0.take ((wrap64 ((l0.length : Int) - 1)) : Int).toNat)).bind fun t290 => (if t290 = true then (some (bt281.2 == x7_2)) else (some false))) else (none)) else (none)) else (some false)) else (some false)))) = some r := by first | (rw [hy277]; with_reducible exact H) | (have H2_ := (Option.bind_some _ _).symm.trans H; rw [hy277]; with_reducible exact H2_) | (have H2_ := (Option.bind_some _ _).symm.trans H; with_reducible exact H2_) | with_reducible exact H | (rw [hy277]; exact H) | exact H
                    have Ny277 := Aside0.mk hy277
                    clear hy277
                    replace H := Option.bind_eq_some_iff.mp H
                    obtain ⟨⟨t281, t282⟩, A240, H⟩ := H
                    replace H : ((cooperagelaw5_samePieces.f k2 t273 l0).bind fun t285 => (if t285 = true then (if t274 = (x6_2.length : Int) then (if 0 ≤ (wrap64 ((l0.length : Int) - 1)) then (if (wrap64 ((l0.length : Int) - 1)) ≤ (l0.length : Int) then ((cooperagelaw5_samePieces.f k2 t281 (l0.take ((wrap64 ((l0.length : Int) - 1)) : Int).toNat)).bind fun t290 => (if t290 = true then (some (t282 == x7_2)) else (some false))) else (none)) else (none)) else (some false)) else (some false))) = some r := H
                    have A24 := Aside0.mk A240
                    clear A240
                    replace H := Option.bind_eq_some_iff.mp H
                    obtain ⟨t285, A250, H⟩ := H
                    replace H : (if t285 = true then (if t274 = (x6_2.length : Int) then (if 0 ≤ (wrap64 ((l0.length : Int) - 1)) then (if (wrap64 ((l0.length : Int) - 1)) ≤ (l0.length : Int) then ((cooperagelaw5_samePieces.f k2 t281 (l0.take ((wrap64 ((l0.length : Int) - 1)) : Int).toNat)).bind fun t290 => (if t290 = true then (some (t282 == x7_2)) else (some false))) else (none)) else (none)) else (some false)) else (some false)) = some r := H
                    have A25 := Aside0.mk A250
                    clear A250
                    by_cases c26 : t285 = true
                    · subst c26
                      have H1 : (if t274 = (x6_2.length : Int) then (if 0 ≤ (wrap64 ((l0.length : Int) - 1)) then (if (wrap64 ((l0.length : Int) - 1)) ≤ (l0.length : Int) then ((cooperagelaw5_samePieces.f k2 t281 (l0.take ((wrap64 ((l0.length : Int) - 1)) : Int).toNat)).bind fun t290 => (if t290 = true then (some (t282 == x7_2)) else (some false))) else (none)) else (none)) else (some false)) = some r := by rw [if_pos rfl] at H; exact H
                      clear H
                      have H := H1
                      clear H1
                      by_cases c27 : t274 = (x6_2.length : Int)
                      · rw [if_pos c27] at H
                        have c27b0 : (t274 == (x6_2.length : Int)) = true := beq_iff_eq.mpr c27
                        have c27b1 : (t274 != (x6_2.length : Int)) = false := bne_eq_false_iff_eq.mpr c27
                        clear c27
                        obtain ⟨ji28, hji28⟩ : ∃ j_ : Int, (wrap64 ((l0.length : Int) - 1)) = j_ := ⟨_, rfl⟩
                        replace H : (if 0 ≤ (ji28) then (if (ji28) ≤ (l0.length : Int) then ((cooperagelaw5_samePieces.f k2 t281 (l0.take ((ji28) : Int).toNat)).bind fun t290 => (if t290 = true then (some (t282 == x7_2)) else (some false))) else (none)) else (none)) = some r := by first | (rw [hji28] at H; exact H) | (simp only [hji28] at H ⊢; exact H)
                        (try rw [hji28] at A20)
                        (try rw [hji28] at A24)
                        (try rw [hji28] at A25)
                        have hji28w : (IntKind.i64.wrap ((l0.length : Int) - 1)) = ji28 := (i64_w _).trans hji28
                        by_cases c29 : 0 ≤ (ji28)
                        · rw [if_pos c29] at H
                          have c29b0 := eq_true c29
                          have c29b1 : decide (0 ≤ (ji28)) = true := decide_eq_true c29
                          clear c29
                          by_cases c30 : (ji28) ≤ (l0.length : Int)
                          · rw [if_pos c30] at H
                            have c30b0 := eq_true c30
                            have c30b1 : decide ((ji28) ≤ (l0.length : Int)) = true := decide_eq_true c30
                            clear c30
                            obtain ⟨y286, hy286⟩ : ∃ y_ : List (List Int), y_ = (l0.take ((ji28) : Int).toNat) := ⟨_, rfl⟩
                            replace H : ((cooperagelaw5_samePieces.f k2 t281 y286).bind fun t290 => (if t290 = true then (some (t282 == x7_2)) else (some false))) = some r := by first | (rw [hy286]; with_reducible exact H) | (have H2_ := (Option.bind_some _ _).symm.trans H; rw [hy286]; with_reducible exact H2_) | (have H2_ := (Option.bind_some _ _).symm.trans H; with_reducible exact H2_) | with_reducible exact H | (rw [hy286]; exact H) | exact H
                            have Ny286 := Aside0.mk hy286
                            clear hy286
                            replace H := Option.bind_eq_some_iff.mp H
                            obtain ⟨t290, A310, H⟩ := H
                            replace H : (if t290 = true then (some (t282 == x7_2)) else (some false)) = some r := H
                            have A31 := Aside0.mk A310
                            clear A310
                            by_cases c32 : t290 = true
                            · subst c32
                              have H1 : (some (t282 == x7_2)) = some r := by rw [if_pos rfl] at H; exact H
                              clear H
                              have H := H1
                              clear H1
                              obtain rfl := Option.some.inj H
                              obtain ⟨Ao33, co33, eo33⟩ := Kd.R_slice HO_6.out
                              subst eo33
                              go_wp2_with (first | ((with_reducible refine gate_callee (f := 22) rfl ?_); refine goesL_ (some 66) rfl rfl Try.func22 (by kernel_rfl) rfl #[.slice Ao33 x6_2.length co33] rfl (by (try simp only [List.map_toArray, List.map_cons, List.map_nil]); first | done | rfl | (simp only [List.length_drop, List.length_take]; rfl)) ?_; (with_reducible refine (frame_All.calls k2 _ _ x6_2 t273 t274 _ ?side1 ?side2 A20.out).mono ?_); (case side1 => repeat (first | exact (Kd.R_reads' HO_6.out).2.2 | (with_reducible refine Kd.C_alloc ?_ _) | (with_reducible refine Kd.C_drewN ?_ _) | (with_reducible refine Kd.C_drew ?_))); (case side2 => exact (Kd.R_reads' HO_6.out).2.1); rintro e w34 ⟨v275, rfl, ho0, hb⟩; refine ⟨_, rfl, ?_⟩; have n0_ := Aside0.mk (Kd.R_below (by (with_reducible repeat (first | apply Kd.R_alloc | apply Kd.R_drewN | apply Kd.R_drew)); exact HO_6.out) hb); have n1_ := Aside0.mk (Kd.S_lower (Kd.S_new' ho0 (Kd.R_lt (by (with_reducible repeat (first | apply Kd.R_alloc | apply Kd.R_drewN | apply Kd.R_drew)); exact HO_6.out))) (below_size (by repeat (first | (with_reducible first | exact HB.out | apply below_alloc | apply pw_below_drewN | apply below_drew1) | exact HB.out)))); have n2_ := Aside0.mk (below_step (by repeat (first | (with_reducible first | exact HB.out | apply below_alloc | apply pw_below_drewN | apply below_drew1) | exact HB.out)) hb); clear HO_6; clear HB; have HO_6 := n0_; have HO276 := n1_; have HB := n2_; clear n0_ n1_ n2_; (try clear hb); (try clear hb2); (try clear hk); (try clear hi); (try clear ho0); have q35 : ((ji21) : Int) ≤ ((x6_2.length : Int) : Int) := of_decide_eq_true (by first | (with_reducible assumption) | assumption); obtain ⟨i035, hi035, _, hsz35, _⟩ := info_parts info5; have hroom35 : x6_2.length ≤ co33 := (Kd.R_reads' HO_6.out).2.1; have hC35 : Kd.C (Kd.int .u8) _ Ao33 x6_2.length x6_2 := (Kd.R_reads' HO_6.out).2.2; have hcut35 := cut_to (P := Try.prog) 30 5 .i64 Try.underlying30 hi035 Ao33 x6_2.length co33 (ji21) (of_decide_eq_true (by first | (with_reducible assumption) | assumption)) q35 hroom35; have hr35 := Kd.C_take (m := ((ji21) : Int).toNat) hC35 (by omega); have hy35 : y277.length = ((ji21) : Int).toNat := (by rw [Ny277.out, List.length_take]; omega); rw [← Ny277.out] at hr35; rw [← hy35] at hcut35; have HR280 := Aside0.mk hr35; have HC280 := Aside0.mk (show y277.length ≤ co33 from by omega); clear hr35 hC35 hroom35 hi035 hsz35; have KY35 := Aside0.mk hy35; clear hy35; have KL35 := Aside0.mk (show ((ji21) : Int).toNat ≤ x6_2.length from by omega); replace q35 := eq_true q35) | ((with_reducible refine gate_callee (f := 22) rfl ?_); refine goesL_ (some 73) rfl rfl Try.func22 (by kernel_rfl) rfl #[.slice Ao33 y277.length co33] rfl (by (try simp only [List.map_toArray, List.map_cons, List.map_nil]); first | done | rfl | (simp only [List.length_drop, List.length_take]; rfl)) ?_; (with_reducible refine (frame_All.calls k2 _ _ y277 t281 t282 _ ?side1 ?side2 A24.out).mono ?_); (case side1 => repeat (first | exact (by repeat (first | (with_reducible exact HR280.out) | (with_reducible refine Kd.C_alloc ?_ _) | (with_reducible refine Kd.C_drewN ?_ _) | (with_reducible refine Kd.C_drew ?_) | exact HR280.out)) | (with_reducible refine Kd.C_alloc ?_ _) | (with_reducible refine Kd.C_drewN ?_ _) | (with_reducible refine Kd.C_drew ?_))); (case side2 => exact HC280.out); rintro e w36 ⟨v283, rfl, ho0, hb⟩; refine ⟨_, rfl, ?_⟩; have n0_ := Aside0.mk (Kd.R_below (by (with_reducible repeat (first | apply Kd.R_alloc | apply Kd.R_drewN | apply Kd.R_drew)); exact HO_6.out) hb); have n1_ := Aside0.mk (Kd.S_elder' (by (with_reducible repeat (first | apply Kd.S_alloc | apply Kd.S_drewN | apply Kd.S_drew)); exact HO276.out) (Kd.S_base ho0) hb); have n2_ := Aside0.mk (Kd.S_lower (Kd.S_new' (Kd.S_new' ho0 (Kd.R_lt (by (with_reducible repeat (first | apply Kd.R_alloc | apply Kd.R_drewN | apply Kd.R_drew)); exact HO_6.out))) (Kd.S_lt (by (with_reducible repeat (first | apply Kd.S_alloc | apply Kd.S_drewN | apply Kd.S_drew)); exact HO276.out))) (below_size (by repeat (first | (with_reducible first | exact HB.out | apply below_alloc | apply pw_below_drewN | apply below_drew1) | exact HB.out)))); have n3_ := Aside0.mk (Kd.C_below (by repeat (first | (with_reducible exact HR280.out) | (with_reducible refine Kd.C_alloc ?_ _) | (with_reducible refine Kd.C_drewN ?_ _) | (with_reducible refine Kd.C_drew ?_) | exact HR280.out)) hb); have n4_ := Aside0.mk (below_step (by repeat (first | (with_reducible first | exact HB.out | apply below_alloc | apply pw_below_drewN | apply below_drew1) | exact HB.out)) hb); clear HO_6; clear HO276; clear HR280; clear HB; have HO_6 := n0_; have HO276 := n1_; have HO284 := n2_; have HR280 := n3_; have HB := n4_; clear n0_ n1_ n2_ n3_ n4_; (try clear hb); (try clear hb2); (try clear hk); (try clear hi); (try clear ho0); obtain ⟨Ao37, co37, eo37⟩ := Kd.S_slice HO276.out; subst eo37) | ((with_reducible refine gate_callee (f := 24) rfl ?_); refine goesL_ (some 78) rfl rfl Try.func24 (by kernel_rfl) rfl #[.slice Ao37 t273.length co37, .slice A0 l0.length c0] rfl (by (try simp only [List.map_toArray, List.map_cons, List.map_nil]); first | done | rfl | (simp only [List.length_drop, List.length_take]; rfl)) ?_; (with_reducible refine (cooperagelaw5_samePieces.calls k2 _ _ t273 _ _ l0 true _ ?side1 ?side2 ?side3 ?side4 A25.out).mono ?_); (case side1 => repeat (first | exact (Kd.S_reads' HO276.out).2.2 | (with_reducible refine Kd.C_alloc ?_ _) | (with_reducible refine Kd.C_drewN ?_ _) | (with_reducible refine Kd.C_drew ?_))); (case side2 => exact (Kd.S_reads' HO276.out).2.1); (case side3 => repeat (first | exact (Kd.C_below HR0.out HB.out) | (with_reducible refine Kd.C_alloc ?_ _) | (with_reducible refine Kd.C_drewN ?_ _) | (with_reducible refine Kd.C_drew ?_))); (case side4 => exact HC0.out); rintro e w' ⟨rfl, ⟨nd, rfl⟩⟩; refine ⟨_, rfl, ?_⟩; have q38 : ((ji28) : Int) ≤ ((l0.length : Int) : Int) := of_decide_eq_true (by first | (with_reducible assumption) | assumption); obtain ⟨i038, hi038, _, hsz38, _⟩ := info_parts info30; have hroom38 : l0.length ≤ c0 := HC0.out; have hC38 : Kd.C (Kd.slice 5 (Kd.int .u8)) _ A0 l0.length l0 := HR0.out; have hcut38 := cut_to (P := Try.prog) 41 30 .i64 Try.underlying41 hi038 A0 l0.length c0 (ji28) (of_decide_eq_true (by first | (with_reducible assumption) | assumption)) q38 hroom38; have hr38 := Kd.C_take (m := ((ji28) : Int).toNat) hC38 (by omega); have hy38 : y286.length = ((ji28) : Int).toNat := (by rw [Ny286.out, List.length_take]; omega); rw [← Ny286.out] at hr38; rw [← hy38] at hcut38; have HR289 := Aside0.mk hr38; have HC289 := Aside0.mk (show y286.length ≤ c0 from by omega); clear hr38 hC38 hroom38 hi038 hsz38; have KY38 := Aside0.mk hy38; clear hy38; replace q38 := eq_true q38; obtain ⟨Ao39, co39, eo39⟩ := Kd.S_slice HO284.out; subst eo39) | (go_at_call 24; (with_reducible refine (cooperagelaw5_samePieces.calls k2 _ _ t281 _ _ y286 true _ ?side1 ?side2 ?side3 ?side4 A31.out).mono ?_); (case side1 => repeat (first | exact (Kd.S_reads' HO284.out).2.2 | (with_reducible refine Kd.C_alloc ?_ _) | (with_reducible refine Kd.C_drewN ?_ _) | (with_reducible refine Kd.C_drew ?_))); (case side2 => exact (Kd.S_reads' HO284.out).2.1); (case side3 => repeat (first | exact (Kd.C_below HR289.out (by repeat (first | (with_reducible first | exact HB.out | apply below_alloc | apply pw_below_drewN | apply below_drew1) | exact HB.out))) | (with_reducible refine Kd.C_alloc ?_ _) | (with_reducible refine Kd.C_drewN ?_ _) | (with_reducible refine Kd.C_drew ?_))); (case side4 => exact HC289.out); rintro e w' ⟨rfl, ⟨nd, rfl⟩⟩))
                              go_ret
                              exact ⟨by first | rfl | (simp [errW_none, errW_some] <;> rfl) | (simp only [← hji21, ← hji28]; first | rfl | (simp [errW_none, errW_some] <;> rfl)) | (simp [*, errW_none, errW_some] <;> rfl) | (simp [errW_none, errW_some]; generalize ByteArray.toList _ = l_; cases l_ <;> rfl), by repeat (first | (with_reducible first | exact HB.out | apply below_alloc | apply pw_below_drewN | apply below_drew1) | exact HB.out)⟩
                            · replace c32 := Bool.eq_false_iff.mpr c32
                              subst c32
                              have H1 : (some false) = some r := by rw [if_neg (show ¬ (false = true) by decide)] at H; exact H
                              clear H
                              have H := H1
                              clear H1
                              obtain rfl := Option.some.inj H
                              obtain ⟨Ao40, co40, eo40⟩ := Kd.R_slice HO_6.out
                              subst eo40
                              go_wp2_with (first | ((with_reducible refine gate_callee (f := 22) rfl ?_); refine goesL_ (some 66) rfl rfl Try.func22 (by kernel_rfl) rfl #[.slice Ao40 x6_2.length co40] rfl (by (try simp only [List.map_toArray, List.map_cons, List.map_nil]); first | done | rfl | (simp only [List.length_drop, List.length_take]; rfl)) ?_; (with_reducible refine (frame_All.calls k2 _ _ x6_2 t273 t274 _ ?side1 ?side2 A20.out).mono ?_); (case side1 => repeat (first | exact (Kd.R_reads' HO_6.out).2.2 | (with_reducible refine Kd.C_alloc ?_ _) | (with_reducible refine Kd.C_drewN ?_ _) | (with_reducible refine Kd.C_drew ?_))); (case side2 => exact (Kd.R_reads' HO_6.out).2.1); rintro e w41 ⟨v275, rfl, ho0, hb⟩; refine ⟨_, rfl, ?_⟩; have n0_ := Aside0.mk (Kd.R_below (by (with_reducible repeat (first | apply Kd.R_alloc | apply Kd.R_drewN | apply Kd.R_drew)); exact HO_6.out) hb); have n1_ := Aside0.mk (Kd.S_lower (Kd.S_new' ho0 (Kd.R_lt (by (with_reducible repeat (first | apply Kd.R_alloc | apply Kd.R_drewN | apply Kd.R_drew)); exact HO_6.out))) (below_size (by repeat (first | (with_reducible first | exact HB.out | apply below_alloc | apply pw_below_drewN | apply below_drew1) | exact HB.out)))); have n2_ := Aside0.mk (below_step (by repeat (first | (with_reducible first | exact HB.out | apply below_alloc | apply pw_below_drewN | apply below_drew1) | exact HB.out)) hb); clear HO_6; clear HB; have HO_6 := n0_; have HO276 := n1_; have HB := n2_; clear n0_ n1_ n2_; (try clear hb); (try clear hb2); (try clear hk); (try clear hi); (try clear ho0); have q42 : ((ji21) : Int) ≤ ((x6_2.length : Int) : Int) := of_decide_eq_true (by first | (with_reducible assumption) | assumption); obtain ⟨i042, hi042, _, hsz42, _⟩ := info_parts info5; have hroom42 : x6_2.length ≤ co40 := (Kd.R_reads' HO_6.out).2.1; have hC42 : Kd.C (Kd.int .u8) _ Ao40 x6_2.length x6_2 := (Kd.R_reads' HO_6.out).2.2; have hcut42 := cut_to (P := Try.prog) 30 5 .i64 Try.underlying30 hi042 Ao40 x6_2.length co40 (ji21) (of_decide_eq_true (by first | (with_reducible assumption) | assumption)) q42 hroom42; have hr42 := Kd.C_take (m := ((ji21) : Int).toNat) hC42 (by omega); have hy42 : y277.length = ((ji21) : Int).toNat := (by rw [Ny277.out, List.length_take]; omega); rw [← Ny277.out] at hr42; rw [← hy42] at hcut42; have HR280 := Aside0.mk hr42; have HC280 := Aside0.mk (show y277.length ≤ co40 from by omega); clear hr42 hC42 hroom42 hi042 hsz42; have KY42 := Aside0.mk hy42; clear hy42; have KL42 := Aside0.mk (show ((ji21) : Int).toNat ≤ x6_2.length from by omega); replace q42 := eq_true q42) | ((with_reducible refine gate_callee (f := 22) rfl ?_); refine goesL_ (some 73) rfl rfl Try.func22 (by kernel_rfl) rfl #[.slice Ao40 y277.length co40] rfl (by (try simp only [List.map_toArray, List.map_cons, List.map_nil]); first | done | rfl | (simp only [List.length_drop, List.length_take]; rfl)) ?_; (with_reducible refine (frame_All.calls k2 _ _ y277 t281 t282 _ ?side1 ?side2 A24.out).mono ?_); (case side1 => repeat (first | exact (by repeat (first | (with_reducible exact HR280.out) | (with_reducible refine Kd.C_alloc ?_ _) | (with_reducible refine Kd.C_drewN ?_ _) | (with_reducible refine Kd.C_drew ?_) | exact HR280.out)) | (with_reducible refine Kd.C_alloc ?_ _) | (with_reducible refine Kd.C_drewN ?_ _) | (with_reducible refine Kd.C_drew ?_))); (case side2 => exact HC280.out); rintro e w43 ⟨v283, rfl, ho0, hb⟩; refine ⟨_, rfl, ?_⟩; have n0_ := Aside0.mk (Kd.R_below (by (with_reducible repeat (first | apply Kd.R_alloc | apply Kd.R_drewN | apply Kd.R_drew)); exact HO_6.out) hb); have n1_ := Aside0.mk (Kd.S_elder' (by (with_reducible repeat (first | apply Kd.S_alloc | apply Kd.S_drewN | apply Kd.S_drew)); exact HO276.out) (Kd.S_base ho0) hb); have n2_ := Aside0.mk (Kd.S_lower (Kd.S_new' (Kd.S_new' ho0 (Kd.R_lt (by (with_reducible repeat (first | apply Kd.R_alloc | apply Kd.R_drewN | apply Kd.R_drew)); exact HO_6.out))) (Kd.S_lt (by (with_reducible repeat (first | apply Kd.S_alloc | apply Kd.S_drewN | apply Kd.S_drew)); exact HO276.out))) (below_size (by repeat (first | (with_reducible first | exact HB.out | apply below_alloc | apply pw_below_drewN | apply below_drew1) | exact HB.out)))); have n3_ := Aside0.mk (Kd.C_below (by repeat (first | (with_reducible exact HR280.out) | (with_reducible refine Kd.C_alloc ?_ _) | (with_reducible refine Kd.C_drewN ?_ _) | (with_reducible refine Kd.C_drew ?_) | exact HR280.out)) hb); have n4_ := Aside0.mk (below_step (by repeat (first | (with_reducible first | exact HB.out | apply below_alloc | apply pw_below_drewN | apply below_drew1) | exact HB.out)) hb); clear HO_6; clear HO276; clear HR280; clear HB; have HO_6 := n0_; have HO276 := n1_; have HO284 := n2_; have HR280 := n3_; have HB := n4_; clear n0_ n1_ n2_ n3_ n4_; (try clear hb); (try clear hb2); (try clear hk); (try clear hi); (try clear ho0); obtain ⟨Ao44, co44, eo44⟩ := Kd.S_slice HO276.out; subst eo44) | ((with_reducible refine gate_callee (f := 24) rfl ?_); refine goesL_ (some 78) rfl rfl Try.func24 (by kernel_rfl) rfl #[.slice Ao44 t273.length co44, .slice A0 l0.length c0] rfl (by (try simp only [List.map_toArray, List.map_cons, List.map_nil]); first | done | rfl | (simp only [List.length_drop, List.length_take]; rfl)) ?_; (with_reducible refine (cooperagelaw5_samePieces.calls k2 _ _ t273 _ _ l0 true _ ?side1 ?side2 ?side3 ?side4 A25.out).mono ?_); (case side1 => repeat (first | exact (Kd.S_reads' HO276.out).2.2 | (with_reducible refine Kd.C_alloc ?_ _) | (with_reducible refine Kd.C_drewN ?_ _) | (with_reducible refine Kd.C_drew ?_))); (case side2 => exact (Kd.S_reads' HO276.out).2.1); (case side3 => repeat (first | exact (Kd.C_below HR0.out HB.out) | (with_reducible refine Kd.C_alloc ?_ _) | (with_reducible refine Kd.C_drewN ?_ _) | (with_reducible refine Kd.C_drew ?_))); (case side4 => exact HC0.out); rintro e w' ⟨rfl, ⟨nd, rfl⟩⟩; refine ⟨_, rfl, ?_⟩; have q45 : ((ji28) : Int) ≤ ((l0.length : Int) : Int) := of_decide_eq_true (by first | (with_reducible assumption) | assumption); obtain ⟨i045, hi045, _, hsz45, _⟩ := info_parts info30; have hroom45 : l0.length ≤ c0 := HC0.out; have hC45 : Kd.C (Kd.slice 5 (Kd.int .u8)) _ A0 l0.length l0 := HR0.out; have hcut45 := cut_to (P := Try.prog) 41 30 .i64 Try.underlying41 hi045 A0 l0.length c0 (ji28) (of_decide_eq_true (by first | (with_reducible assumption) | assumption)) q45 hroom45; have hr45 := Kd.C_take (m := ((ji28) : Int).toNat) hC45 (by omega); have hy45 : y286.length = ((ji28) : Int).toNat := (by rw [Ny286.out, List.length_take]; omega); rw [← Ny286.out] at hr45; rw [← hy45] at hcut45; have HR289 := Aside0.mk hr45; have HC289 := Aside0.mk (show y286.length ≤ c0 from by omega); clear hr45 hC45 hroom45 hi045 hsz45; have KY45 := Aside0.mk hy45; clear hy45; replace q45 := eq_true q45; obtain ⟨Ao46, co46, eo46⟩ := Kd.S_slice HO284.out; subst eo46) | (go_at_call 24; (with_reducible refine (cooperagelaw5_samePieces.calls k2 _ _ t281 _ _ y286 false _ ?side1 ?side2 ?side3 ?side4 A31.out).mono ?_); (case side1 => repeat (first | exact (Kd.S_reads' HO284.out).2.2 | (with_reducible refine Kd.C_alloc ?_ _) | (with_reducible refine Kd.C_drewN ?_ _) | (with_reducible refine Kd.C_drew ?_))); (case side2 => exact (Kd.S_reads' HO284.out).2.1); (case side3 => repeat (first | exact (Kd.C_below HR289.out (by repeat (first | (with_reducible first | exact HB.out | apply below_alloc | apply pw_below_drewN | apply below_drew1) | exact HB.out))) | (with_reducible refine Kd.C_alloc ?_ _) | (with_reducible refine Kd.C_drewN ?_ _) | (with_reducible refine Kd.C_drew ?_))); (case side4 => exact HC289.out); rintro e w' ⟨rfl, ⟨nd, rfl⟩⟩))
                              go_ret
                              exact ⟨by first | rfl | (simp [errW_none, errW_some] <;> rfl) | (simp only [← hji21, ← hji28]; first | rfl | (simp [errW_none, errW_some] <;> rfl)) | (simp [*, errW_none, errW_some] <;> rfl) | (simp [errW_none, errW_some]; generalize ByteArray.toList _ = l_; cases l_ <;> rfl), by repeat (first | (with_reducible first | exact HB.out | apply below_alloc | apply pw_below_drewN | apply below_drew1) | exact HB.out)⟩
                          · rw [if_neg c30] at H
                            exact absurd H (by simp)
                        · rw [if_neg c29] at H
                          exact absurd H (by simp)
                      · rw [if_neg c27] at H
                        have c27b0 : (t274 == (x6_2.length : Int)) = false := beq_eq_false_iff_ne.mpr c27
                        have c27b1 : (t274 != (x6_2.length : Int)) = true := bne_iff_ne.mpr c27
                        obtain rfl := Option.some.inj H
                        obtain ⟨Ao47, co47, eo47⟩ := Kd.R_slice HO_6.out
                        subst eo47
                        go_wp2_with (first | ((with_reducible refine gate_callee (f := 22) rfl ?_); refine goesL_ (some 66) rfl rfl Try.func22 (by kernel_rfl) rfl #[.slice Ao47 x6_2.length co47] rfl (by (try simp only [List.map_toArray, List.map_cons, List.map_nil]); first | done | rfl | (simp only [List.length_drop, List.length_take]; rfl)) ?_; (with_reducible refine (frame_All.calls k2 _ _ x6_2 t273 t274 _ ?side1 ?side2 A20.out).mono ?_); (case side1 => repeat (first | exact (Kd.R_reads' HO_6.out).2.2 | (with_reducible refine Kd.C_alloc ?_ _) | (with_reducible refine Kd.C_drewN ?_ _) | (with_reducible refine Kd.C_drew ?_))); (case side2 => exact (Kd.R_reads' HO_6.out).2.1); rintro e w48 ⟨v275, rfl, ho0, hb⟩; refine ⟨_, rfl, ?_⟩; have n0_ := Aside0.mk (Kd.R_below (by (with_reducible repeat (first | apply Kd.R_alloc | apply Kd.R_drewN | apply Kd.R_drew)); exact HO_6.out) hb); have n1_ := Aside0.mk (Kd.S_lower (Kd.S_new' ho0 (Kd.R_lt (by (with_reducible repeat (first | apply Kd.R_alloc | apply Kd.R_drewN | apply Kd.R_drew)); exact HO_6.out))) (below_size (by repeat (first | (with_reducible first | exact HB.out | apply below_alloc | apply pw_below_drewN | apply below_drew1) | exact HB.out)))); have n2_ := Aside0.mk (below_step (by repeat (first | (with_reducible first | exact HB.out | apply below_alloc | apply pw_below_drewN | apply below_drew1) | exact HB.out)) hb); clear HO_6; clear HB; have HO_6 := n0_; have HO276 := n1_; have HB := n2_; clear n0_ n1_ n2_; (try clear hb); (try clear hb2); (try clear hk); (try clear hi); (try clear ho0); have q49 : ((ji21) : Int) ≤ ((x6_2.length : Int) : Int) := of_decide_eq_true (by first | (with_reducible assumption) | assumption); obtain ⟨i049, hi049, _, hsz49, _⟩ := info_parts info5; have hroom49 : x6_2.length ≤ co47 := (Kd.R_reads' HO_6.out).2.1; have hC49 : Kd.C (Kd.int .u8) _ Ao47 x6_2.length x6_2 := (Kd.R_reads' HO_6.out).2.2; have hcut49 := cut_to (P := Try.prog) 30 5 .i64 Try.underlying30 hi049 Ao47 x6_2.length co47 (ji21) (of_decide_eq_true (by first | (with_reducible assumption) | assumption)) q49 hroom49; have hr49 := Kd.C_take (m := ((ji21) : Int).toNat) hC49 (by omega); have hy49 : y277.length = ((ji21) : Int).toNat := (by rw [Ny277.out, List.length_take]; omega); rw [← Ny277.out] at hr49; rw [← hy49] at hcut49; have HR280 := Aside0.mk hr49; have HC280 := Aside0.mk (show y277.length ≤ co47 from by omega); clear hr49 hC49 hroom49 hi049 hsz49; have KY49 := Aside0.mk hy49; clear hy49; have KL49 := Aside0.mk (show ((ji21) : Int).toNat ≤ x6_2.length from by omega); replace q49 := eq_true q49) | ((with_reducible refine gate_callee (f := 22) rfl ?_); refine goesL_ (some 73) rfl rfl Try.func22 (by kernel_rfl) rfl #[.slice Ao47 y277.length co47] rfl (by (try simp only [List.map_toArray, List.map_cons, List.map_nil]); first | done | rfl | (simp only [List.length_drop, List.length_take]; rfl)) ?_; (with_reducible refine (frame_All.calls k2 _ _ y277 t281 t282 _ ?side1 ?side2 A24.out).mono ?_); (case side1 => repeat (first | exact (by repeat (first | (with_reducible exact HR280.out) | (with_reducible refine Kd.C_alloc ?_ _) | (with_reducible refine Kd.C_drewN ?_ _) | (with_reducible refine Kd.C_drew ?_) | exact HR280.out)) | (with_reducible refine Kd.C_alloc ?_ _) | (with_reducible refine Kd.C_drewN ?_ _) | (with_reducible refine Kd.C_drew ?_))); (case side2 => exact HC280.out); rintro e w50 ⟨v283, rfl, ho0, hb⟩; refine ⟨_, rfl, ?_⟩; have n0_ := Aside0.mk (Kd.R_below (by (with_reducible repeat (first | apply Kd.R_alloc | apply Kd.R_drewN | apply Kd.R_drew)); exact HO_6.out) hb); have n1_ := Aside0.mk (Kd.S_elder' (by (with_reducible repeat (first | apply Kd.S_alloc | apply Kd.S_drewN | apply Kd.S_drew)); exact HO276.out) (Kd.S_base ho0) hb); have n2_ := Aside0.mk (Kd.S_lower (Kd.S_new' (Kd.S_new' ho0 (Kd.R_lt (by (with_reducible repeat (first | apply Kd.R_alloc | apply Kd.R_drewN | apply Kd.R_drew)); exact HO_6.out))) (Kd.S_lt (by (with_reducible repeat (first | apply Kd.S_alloc | apply Kd.S_drewN | apply Kd.S_drew)); exact HO276.out))) (below_size (by repeat (first | (with_reducible first | exact HB.out | apply below_alloc | apply pw_below_drewN | apply below_drew1) | exact HB.out)))); have n3_ := Aside0.mk (Kd.C_below (by repeat (first | (with_reducible exact HR280.out) | (with_reducible refine Kd.C_alloc ?_ _) | (with_reducible refine Kd.C_drewN ?_ _) | (with_reducible refine Kd.C_drew ?_) | exact HR280.out)) hb); have n4_ := Aside0.mk (below_step (by repeat (first | (with_reducible first | exact HB.out | apply below_alloc | apply pw_below_drewN | apply below_drew1) | exact HB.out)) hb); clear HO_6; clear HO276; clear HR280; clear HB; have HO_6 := n0_; have HO276 := n1_; have HO284 := n2_; have HR280 := n3_; have HB := n4_; clear n0_ n1_ n2_ n3_ n4_; (try clear hb); (try clear hb2); (try clear hk); (try clear hi); (try clear ho0); obtain ⟨Ao51, co51, eo51⟩ := Kd.S_slice HO276.out; subst eo51) | ((with_reducible refine gate_callee (f := 24) rfl ?_); refine goesL_ (some 78) rfl rfl Try.func24 (by kernel_rfl) rfl #[.slice Ao51 t273.length co51, .slice A0 l0.length c0] rfl (by (try simp only [List.map_toArray, List.map_cons, List.map_nil]); first | done | rfl | (simp only [List.length_drop, List.length_take]; rfl)) ?_; (with_reducible refine (cooperagelaw5_samePieces.calls k2 _ _ t273 _ _ l0 true _ ?side1 ?side2 ?side3 ?side4 A25.out).mono ?_); (case side1 => repeat (first | exact (Kd.S_reads' HO276.out).2.2 | (with_reducible refine Kd.C_alloc ?_ _) | (with_reducible refine Kd.C_drewN ?_ _) | (with_reducible refine Kd.C_drew ?_))); (case side2 => exact (Kd.S_reads' HO276.out).2.1); (case side3 => repeat (first | exact (Kd.C_below HR0.out HB.out) | (with_reducible refine Kd.C_alloc ?_ _) | (with_reducible refine Kd.C_drewN ?_ _) | (with_reducible refine Kd.C_drew ?_))); (case side4 => exact HC0.out); rintro e w' ⟨rfl, ⟨nd, rfl⟩⟩; refine ⟨_, rfl, ?_⟩))
                        go_ret
                        exact ⟨by first | rfl | (simp [errW_none, errW_some] <;> rfl) | (simp only [← hji21]; first | rfl | (simp [errW_none, errW_some] <;> rfl)) | (simp [*, errW_none, errW_some] <;> rfl) | (simp [errW_none, errW_some]; generalize ByteArray.toList _ = l_; cases l_ <;> rfl), by repeat (first | (with_reducible first | exact HB.out | apply below_alloc | apply pw_below_drewN | apply below_drew1) | exact HB.out)⟩
                    · replace c26 := Bool.eq_false_iff.mpr c26
                      subst c26
                      have H1 : (some false) = some r := by rw [if_neg (show ¬ (false = true) by decide)] at H; exact H
                      clear H
                      have H := H1
                      clear H1
                      obtain rfl := Option.some.inj H
                      obtain ⟨Ao52, co52, eo52⟩ := Kd.R_slice HO_6.out
                      subst eo52
                      go_wp2_with (first | ((with_reducible refine gate_callee (f := 22) rfl ?_); refine goesL_ (some 66) rfl rfl Try.func22 (by kernel_rfl) rfl #[.slice Ao52 x6_2.length co52] rfl (by (try simp only [List.map_toArray, List.map_cons, List.map_nil]); first | done | rfl | (simp only [List.length_drop, List.length_take]; rfl)) ?_; (with_reducible refine (frame_All.calls k2 _ _ x6_2 t273 t274 _ ?side1 ?side2 A20.out).mono ?_); (case side1 => repeat (first | exact (Kd.R_reads' HO_6.out).2.2 | (with_reducible refine Kd.C_alloc ?_ _) | (with_reducible refine Kd.C_drewN ?_ _) | (with_reducible refine Kd.C_drew ?_))); (case side2 => exact (Kd.R_reads' HO_6.out).2.1); rintro e w53 ⟨v275, rfl, ho0, hb⟩; refine ⟨_, rfl, ?_⟩; have n0_ := Aside0.mk (Kd.R_below (by (with_reducible repeat (first | apply Kd.R_alloc | apply Kd.R_drewN | apply Kd.R_drew)); exact HO_6.out) hb); have n1_ := Aside0.mk (Kd.S_lower (Kd.S_new' ho0 (Kd.R_lt (by (with_reducible repeat (first | apply Kd.R_alloc | apply Kd.R_drewN | apply Kd.R_drew)); exact HO_6.out))) (below_size (by repeat (first | (with_reducible first | exact HB.out | apply below_alloc | apply pw_below_drewN | apply below_drew1) | exact HB.out)))); have n2_ := Aside0.mk (below_step (by repeat (first | (with_reducible first | exact HB.out | apply below_alloc | apply pw_below_drewN | apply below_drew1) | exact HB.out)) hb); clear HO_6; clear HB; have HO_6 := n0_; have HO276 := n1_; have HB := n2_; clear n0_ n1_ n2_; (try clear hb); (try clear hb2); (try clear hk); (try clear hi); (try clear ho0); have q54 : ((ji21) : Int) ≤ ((x6_2.length : Int) : Int) := of_decide_eq_true (by first | (with_reducible assumption) | assumption); obtain ⟨i054, hi054, _, hsz54, _⟩ := info_parts info5; have hroom54 : x6_2.length ≤ co52 := (Kd.R_reads' HO_6.out).2.1; have hC54 : Kd.C (Kd.int .u8) _ Ao52 x6_2.length x6_2 := (Kd.R_reads' HO_6.out).2.2; have hcut54 := cut_to (P := Try.prog) 30 5 .i64 Try.underlying30 hi054 Ao52 x6_2.length co52 (ji21) (of_decide_eq_true (by first | (with_reducible assumption) | assumption)) q54 hroom54; have hr54 := Kd.C_take (m := ((ji21) : Int).toNat) hC54 (by omega); have hy54 : y277.length = ((ji21) : Int).toNat := (by rw [Ny277.out, List.length_take]; omega); rw [← Ny277.out] at hr54; rw [← hy54] at hcut54; have HR280 := Aside0.mk hr54; have HC280 := Aside0.mk (show y277.length ≤ co52 from by omega); clear hr54 hC54 hroom54 hi054 hsz54; have KY54 := Aside0.mk hy54; clear hy54; have KL54 := Aside0.mk (show ((ji21) : Int).toNat ≤ x6_2.length from by omega); replace q54 := eq_true q54) | ((with_reducible refine gate_callee (f := 22) rfl ?_); refine goesL_ (some 73) rfl rfl Try.func22 (by kernel_rfl) rfl #[.slice Ao52 y277.length co52] rfl (by (try simp only [List.map_toArray, List.map_cons, List.map_nil]); first | done | rfl | (simp only [List.length_drop, List.length_take]; rfl)) ?_; (with_reducible refine (frame_All.calls k2 _ _ y277 t281 t282 _ ?side1 ?side2 A24.out).mono ?_); (case side1 => repeat (first | exact (by repeat (first | (with_reducible exact HR280.out) | (with_reducible refine Kd.C_alloc ?_ _) | (with_reducible refine Kd.C_drewN ?_ _) | (with_reducible refine Kd.C_drew ?_) | exact HR280.out)) | (with_reducible refine Kd.C_alloc ?_ _) | (with_reducible refine Kd.C_drewN ?_ _) | (with_reducible refine Kd.C_drew ?_))); (case side2 => exact HC280.out); rintro e w55 ⟨v283, rfl, ho0, hb⟩; refine ⟨_, rfl, ?_⟩; have n0_ := Aside0.mk (Kd.R_below (by (with_reducible repeat (first | apply Kd.R_alloc | apply Kd.R_drewN | apply Kd.R_drew)); exact HO_6.out) hb); have n1_ := Aside0.mk (Kd.S_elder' (by (with_reducible repeat (first | apply Kd.S_alloc | apply Kd.S_drewN | apply Kd.S_drew)); exact HO276.out) (Kd.S_base ho0) hb); have n2_ := Aside0.mk (Kd.S_lower (Kd.S_new' (Kd.S_new' ho0 (Kd.R_lt (by (with_reducible repeat (first | apply Kd.R_alloc | apply Kd.R_drewN | apply Kd.R_drew)); exact HO_6.out))) (Kd.S_lt (by (with_reducible repeat (first | apply Kd.S_alloc | apply Kd.S_drewN | apply Kd.S_drew)); exact HO276.out))) (below_size (by repeat (first | (with_reducible first | exact HB.out | apply below_alloc | apply pw_below_drewN | apply below_drew1) | exact HB.out)))); have n3_ := Aside0.mk (Kd.C_below (by repeat (first | (with_reducible exact HR280.out) | (with_reducible refine Kd.C_alloc ?_ _) | (with_reducible refine Kd.C_drewN ?_ _) | (with_reducible refine Kd.C_drew ?_) | exact HR280.out)) hb); have n4_ := Aside0.mk (below_step (by repeat (first | (with_reducible first | exact HB.out | apply below_alloc | apply pw_below_drewN | apply below_drew1) | exact HB.out)) hb); clear HO_6; clear HO276; clear HR280; clear HB; have HO_6 := n0_; have HO276 := n1_; have HO284 := n2_; have HR280 := n3_; have HB := n4_; clear n0_ n1_ n2_ n3_ n4_; (try clear hb); (try clear hb2); (try clear hk); (try clear hi); (try clear ho0); obtain ⟨Ao56, co56, eo56⟩ := Kd.S_slice HO276.out; subst eo56) | ((with_reducible refine gate_callee (f := 24) rfl ?_); refine goesL_ (some 78) rfl rfl Try.func24 (by kernel_rfl) rfl #[.slice Ao56 t273.length co56, .slice A0 l0.length c0] rfl (by (try simp only [List.map_toArray, List.map_cons, List.map_nil]); first | done | rfl | (simp only [List.length_drop, List.length_take]; rfl)) ?_; (with_reducible refine (cooperagelaw5_samePieces.calls k2 _ _ t273 _ _ l0 false _ ?side1 ?side2 ?side3 ?side4 A25.out).mono ?_); (case side1 => repeat (first | exact (Kd.S_reads' HO276.out).2.2 | (with_reducible refine Kd.C_alloc ?_ _) | (with_reducible refine Kd.C_drewN ?_ _) | (with_reducible refine Kd.C_drew ?_))); (case side2 => exact (Kd.S_reads' HO276.out).2.1); (case side3 => repeat (first | exact (Kd.C_below HR0.out HB.out) | (with_reducible refine Kd.C_alloc ?_ _) | (with_reducible refine Kd.C_drewN ?_ _) | (with_reducible refine Kd.C_drew ?_))); (case side4 => exact HC0.out); rintro e w' ⟨rfl, ⟨nd, rfl⟩⟩; refine ⟨_, rfl, ?_⟩))
                      go_ret
                      exact ⟨by first | rfl | (simp [errW_none, errW_some] <;> rfl) | (simp only [← hji21]; first | rfl | (simp [errW_none, errW_some] <;> rfl)) | (simp [*, errW_none, errW_some] <;> rfl) | (simp [errW_none, errW_some]; generalize ByteArray.toList _ = l_; cases l_ <;> rfl), by repeat (first | (with_reducible first | exact HB.out | apply below_alloc | apply pw_below_drewN | apply below_drew1) | exact HB.out)⟩
                  · rw [if_neg c23] at H
                    exact absurd H (by simp)
                · rw [if_neg c22] at H
                  exact absurd H (by simp)

end Go.Proofs.Ytpafbpfcoacidaa.F

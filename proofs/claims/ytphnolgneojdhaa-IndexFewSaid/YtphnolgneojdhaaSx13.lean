-- printed by a program of this session (a changed copy of the kit's printer)
import Derived.Test.YtphnolgneojdhaaSx0
import Derived.Test.YtphnolgneojdhaaSx10
import Derived.Test.YtphnolgneojdhaaSx11
import Derived.Test.YtphnolgneojdhaaSx12
namespace Go.Proofs.Ytphnolgneojdhaa.S
open Go.RowKit Go.Proofs.YtphnolgneojdhaaW.PrintWords Go.Proofs.YtphnolgneojdhaaW.PrintLast Go.Proofs.YtphnolgneojdhaaW.PrintMore
attribute [local go_sem] max2_int min2_int max_two min_two max_three min_three max_four min_four   -- for this text's walks alone
set_option linter.unusedVariables false
set_option linter.unusedSimpArgs false

/-! ### cooperageref1_Make: function 15 -/
mutual
def cooperageref1_Make.j0 : Nat → List (S34) → Int → Option ((List (S31)))
  | 0, _, _ => none
  | k + 1, x0, x1 => cooperageref1_Make.l0 k x0 x1 ([] : List (S31)) 0 0 (-1099511627777) 0
def cooperageref1_Make.l0 : Nat → List (S34) → Int → List (S31) → Int → Int → Int → Int → Option ((List (S31)))
  | 0, _, _, _, _, _, _, _ => none
  | k + 1, x0, x1, x5, x6, x7, x8, x9 => if x9 < (x0.length : Int) then (if 0 ≤ x9 then ((cooperageref1_Right.f ((rd_T34 x0 x9).f0) ((rd_T34 x0 x9).f1) ((rd_T34 x0 x9).f2) ((rd_T34 x0 x9).f3) ((rd_T34 x0 x9).f4)).bind fun t289 => (if t289 = true then (if x1 = 0 then (none) else (if (Int.tmod x7 x1) = 0 then (if x5.length < 5864062014805 then (cooperageref1_Make.j2 k x0 x1 (x5 ++ [(⟨(rd_T34 x0 x9).f0, x8, x6⟩ : S31)]) x6 x7 x8 x9) else (none)) else (cooperageref1_Make.j2 k x0 x1 x5 x6 x7 x8 x9))) else (cooperageref1_Make.l0 k x0 x1 x5 x6 x7 x8 (wrap64 (x9 + 1))))) else (none)) else (some x5)
def cooperageref1_Make.j2 : Nat → List (S34) → Int → List (S31) → Int → Int → Int → Int → Option ((List (S31)))
  | 0, _, _, _, _, _, _, _ => none
  | k + 1, x0, x1, x5, x6, x7, x8, x9 => if 0 ≤ x9 then (if x9 < (x0.length : Int) then (if ((rd_T34 x0 x9).f1) > x8 then ((cooperageref1_PutRecord.f k ([] : List Int) ((rd_T34 x0 x9).f0) ((rd_T34 x0 x9).f1) ((rd_T34 x0 x9).f2) ((rd_T34 x0 x9).f3) ((rd_T34 x0 x9).f4)).bind fun t297 => ((cooperageref1_PutFrame.f k ([] : List Int) t297).bind fun t300 => (cooperageref1_Make.l0 k x0 x1 x5 (wrap64 (x6 + (t300.length : Int))) (wrap64 (x7 + 1)) ((rd_T34 x0 x9).f1) (wrap64 (x9 + 1))))) else ((cooperageref1_PutRecord.f k ([] : List Int) ((rd_T34 x0 x9).f0) ((rd_T34 x0 x9).f1) ((rd_T34 x0 x9).f2) ((rd_T34 x0 x9).f3) ((rd_T34 x0 x9).f4)).bind fun t304 => ((cooperageref1_PutFrame.f k ([] : List Int) t304).bind fun t307 => (cooperageref1_Make.l0 k x0 x1 x5 (wrap64 (x6 + (t307.length : Int))) (wrap64 (x7 + 1)) x8 (wrap64 (x9 + 1)))))) else (none)) else (none)
end
def cooperageref1_Make.f (k : Nat) (l0 : List (S34)) (a1 : Int) : Option ((List (S31))) := if a1 < 1 then (cooperageref1_Make.j0 k l0 1) else (cooperageref1_Make.j0 k l0 a1)
theorem cooperageref1_Make.mono_l : ∀ k, (∀ y0 y1, LeO (cooperageref1_Make.j0 k y0 y1) (cooperageref1_Make.j0 (k + 1) y0 y1)) ∧ (∀ y0 y1 y2 y3 y4 y5 y6, LeO (cooperageref1_Make.l0 k y0 y1 y2 y3 y4 y5 y6) (cooperageref1_Make.l0 (k + 1) y0 y1 y2 y3 y4 y5 y6)) ∧ (∀ y0 y1 y2 y3 y4 y5 y6, LeO (cooperageref1_Make.j2 k y0 y1 y2 y3 y4 y5 y6) (cooperageref1_Make.j2 (k + 1) y0 y1 y2 y3 y4 y5 y6))
  | 0 => ⟨fun _ _ r h => by simp [cooperageref1_Make.j0] at h, fun _ _ _ _ _ _ _ r h => by simp [cooperageref1_Make.l0] at h, fun _ _ _ _ _ _ _ r h => by simp [cooperageref1_Make.j2] at h⟩
  | k + 1 => by
    obtain ⟨ih0, ih1, ih2⟩ := cooperageref1_Make.mono_l k
    refine ⟨?_, ?_, ?_⟩
    · intro y0 y1
      unfold cooperageref1_Make.j0
      repeat' first
      | (with_reducible exact ih0 _ _)
      | (with_reducible exact ih1 _ _ _ _ _ _ _)
      | (with_reducible exact ih2 _ _ _ _ _ _ _)
      | (with_reducible exact cooperageref1_PutFrame.mono _ _ _)
      | (with_reducible exact cooperageref1_PutRecord.mono _ _ _ _ _ _ _)
      | (with_reducible exact LeO.refl _)
      | (with_reducible exact LeO.none _)
      | (with_reducible refine LeO.ite ?_ ?_)
      | (with_reducible refine LeO.bind ?_ (fun _ => ?_))
      | exact ih0 _ _
      | exact ih1 _ _ _ _ _ _ _
      | exact ih2 _ _ _ _ _ _ _
      | exact cooperageref1_PutFrame.mono _ _ _
      | exact cooperageref1_PutRecord.mono _ _ _ _ _ _ _
      | exact LeO.none _
      | refine LeO.ite ?_ ?_
      | refine LeO.bind ?_ (fun _ => ?_)
    · intro y0 y1 y2 y3 y4 y5 y6
      unfold cooperageref1_Make.l0
      repeat' first
      | (with_reducible exact ih0 _ _)
      | (with_reducible exact ih1 _ _ _ _ _ _ _)
      | (with_reducible exact ih2 _ _ _ _ _ _ _)
      | (with_reducible exact cooperageref1_PutFrame.mono _ _ _)
      | (with_reducible exact cooperageref1_PutRecord.mono _ _ _ _ _ _ _)
      | (with_reducible exact LeO.refl _)
      | (with_reducible exact LeO.none _)
      | (with_reducible refine LeO.ite ?_ ?_)
      | (with_reducible refine LeO.bind ?_ (fun _ => ?_))
      | exact ih0 _ _
      | exact ih1 _ _ _ _ _ _ _
      | exact ih2 _ _ _ _ _ _ _
      | exact cooperageref1_PutFrame.mono _ _ _
      | exact cooperageref1_PutRecord.mono _ _ _ _ _ _ _
      | exact LeO.none _
      | refine LeO.ite ?_ ?_
      | refine LeO.bind ?_ (fun _ => ?_)
    · intro y0 y1 y2 y3 y4 y5 y6
      unfold cooperageref1_Make.j2
      repeat' first
      | (with_reducible exact ih0 _ _)
      | (with_reducible exact ih1 _ _ _ _ _ _ _)
      | (with_reducible exact ih2 _ _ _ _ _ _ _)
      | (with_reducible exact cooperageref1_PutFrame.mono _ _ _)
      | (with_reducible exact cooperageref1_PutRecord.mono _ _ _ _ _ _ _)
      | (with_reducible exact LeO.refl _)
      | (with_reducible exact LeO.none _)
      | (with_reducible refine LeO.ite ?_ ?_)
      | (with_reducible refine LeO.bind ?_ (fun _ => ?_))
      | exact ih0 _ _
      | exact ih1 _ _ _ _ _ _ _
      | exact ih2 _ _ _ _ _ _ _
      | exact cooperageref1_PutFrame.mono _ _ _
      | exact cooperageref1_PutRecord.mono _ _ _ _ _ _ _
      | exact LeO.none _
      | refine LeO.ite ?_ ?_
      | refine LeO.bind ?_ (fun _ => ?_)
theorem cooperageref1_Make.mono : ∀ a0 a1 k, LeO (cooperageref1_Make.f k a0 a1) (cooperageref1_Make.f (k + 1) a0 a1) := by
  intro a0 a1 k
  obtain ⟨ih0, ih1, ih2⟩ := cooperageref1_Make.mono_l k
  unfold cooperageref1_Make.f
  repeat' first
      | (with_reducible exact ih0 _ _)
      | (with_reducible exact ih1 _ _ _ _ _ _ _)
      | (with_reducible exact ih2 _ _ _ _ _ _ _)
      | (with_reducible exact cooperageref1_PutFrame.mono _ _ _)
      | (with_reducible exact cooperageref1_PutRecord.mono _ _ _ _ _ _ _)
      | (with_reducible exact LeO.refl _)
      | (with_reducible exact LeO.none _)
      | (with_reducible refine LeO.ite ?_ ?_)
      | (with_reducible refine LeO.bind ?_ (fun _ => ?_))
      | exact ih0 _ _
      | exact ih1 _ _ _ _ _ _ _
      | exact ih2 _ _ _ _ _ _ _
      | exact cooperageref1_PutFrame.mono _ _ _
      | exact cooperageref1_PutRecord.mono _ _ _ _ _ _ _
      | exact LeO.none _
      | refine LeO.ite ?_ ?_
      | refine LeO.bind ?_ (fun _ => ?_)
set_option maxHeartbeats 8000000 in
set_option maxRecDepth 100000 in
theorem cooperageref1_Make.calls (k : Nat) (A0 : Option Addr) (c0 : Nat) (l0 : List (S34)) (a1 : Int) (r : List (S31)) (w : World) (hr0 : Kd.C k34 w A0 l0.length l0) (hc0 : l0.length ≤ c0) (h : cooperageref1_Make.f k l0 a1 = some r) :
    Calls Try.prog 15 #[.slice A0 l0.length c0, .int .i64 a1] w fun e w' => ∃ v0_ : Value, e = .returned (v0_) ∧ Kd.R k31 31 w' w.heap.size (fun _ => True) v0_ r ∧ Below w.heap.size w w' := by
  have hu34 := Try.underlying34
  have hu31 := Try.underlying31
  have HR0 := Aside0.mk hr0
  have HC0 := Aside0.mk hc0
  clear hr0 hc0
  have HB := Aside0.mk (Below.refl w.heap.size w)
  have H : (if a1 < 1 then (cooperageref1_Make.j0 k l0 1) else (cooperageref1_Make.j0 k l0 a1)) = some r := h
  clear h
  have HC3 := Aside0.mk H
  clear H
  go_enter Try.func15, Try.ntmps15
  go_upto_if 11 with (fail)
  go_cut [1] (fun v1 wc => ∃ (kq : Nat) (x1_2 : Int), v1 = .int .i64 x1_2 ∧ Aside0 (cooperageref1_Make.j0 kq l0 x1_2 = some r) ∧ Aside0 (kq ≤ k) ∧ Aside0 (Below w.heap.size w wc))
  case first =>
    have H := HC3.out
    clear HC3
    by_cases c4 : a1 < 1
    · rw [if_pos c4] at H
      have c4b0 : decide (a1 < 1) = true := decide_eq_true c4
      clear c4
      (first | rw [c4b0] | (simp only [i64_w, i32_w]; rw [c4b0]) | skip)
      have H' := Aside0.mk H
      clear H
      go_wp2
      go_meet
      case rel => exact ⟨_, (1), (by first | rfl | (simp; done) | (simp [*]; done)), H', ⟨by first | omega | exact Nat.le_refl _⟩, ⟨by repeat (first | (with_reducible first | exact HB.out | apply below_alloc | apply pw_below_drewN | apply below_drew1) | exact HB.out)⟩⟩
    · rw [if_neg c4] at H
      have c4b0 : decide (a1 < 1) = false := decide_eq_false c4
      clear c4
      (first | rw [c4b0] | (simp only [i64_w, i32_w]; rw [c4b0]) | skip)
      have H' := Aside0.mk H
      clear H
      go_wp2
      go_meet
      case rel => exact ⟨_, (a1), (by first | rfl | (simp; done) | (simp [*]; done)), H', ⟨by first | omega | exact Nat.le_refl _⟩, ⟨by repeat (first | (with_reducible first | exact HB.out | apply below_alloc | apply pw_below_drewN | apply below_drew1) | exact HB.out)⟩⟩
  case rest =>
    clear HC3
    try clear c1
    try clear p2
    try clear c4
    try clear c4b0
    obtain ⟨kq, x1_2, rfl, HA, HJ2, HB⟩ := hcut
    cases kq with
    | zero => exact absurd HA.out (by simp [cooperageref1_Make.j0])
    | succ kj2 =>
      have H := HA.out
      clear HA
      simp only [cooperageref1_Make.j0] at H
      have H' := Aside0.mk H
      clear H
      go_wp2
      go_loopg [5, 6, 7, 8, 9] kj2 (fun kq v5 v6 v7 v8 v9 w' => ∃ (x5_2 : List (S31)) (x6_2 : Int) (x7_2 : Int) (x8_2 : Int) (x9_2 : Int), v6 = .int .i64 x6_2 ∧ v7 = .int .i64 x7_2 ∧ v8 = .int .i64 x8_2 ∧ v9 = .int .i64 x9_2 ∧ Aside0 (cooperageref1_Make.l0 kq l0 x1_2 x5_2 x6_2 x7_2 x8_2 x9_2 = some r) ∧ Aside0 (kq ≤ kj2) ∧ Aside0 (Kd.R k31 31 w' w.heap.size (fun _ => True) v5 x5_2) ∧ Aside0 (Below w.heap.size w w'))
      case atStart => exact ⟨(([] : List (S31))), (0), (0), ((-1099511627777)), (0), (by first | rfl | (simp; done) | (simp [*]; done)), (by first | rfl | (simp; done) | (simp [*]; done)), (by first | rfl | (simp; done) | (simp [*]; done)), (by first | rfl | (simp; done) | (simp [*]; done)), H', ⟨Nat.le_refl _⟩, ⟨by first | exact Kd.R_nil _ _ _ _ _ | exact Kd.N_nil _ _ _ _ _ | exact Kd.V_nil _ _ _ _ _ | exact Kd.Q_nil _ _ _ _ _ | exact Kd.S_nil _ _ _ _ _⟩, ⟨by repeat (first | (with_reducible first | exact HB.out | apply below_alloc | apply pw_below_drewN | apply below_drew1) | exact HB.out)⟩⟩
      case round =>
        clear H'
        try clear c1
        try clear p2
        try clear c4
        try clear c4b0
        try clear p2
        obtain ⟨x5_2, x6_2, x7_2, x8_2, x9_2, rfl, rfl, rfl, rfl, HA, HK2, HO_5, HB⟩ := hrel
        cases gk with
        | zero => exact absurd HA.out (by simp [cooperageref1_Make.l0])
        | succ k2 =>
          have H := HA.out
          clear HA
          simp only [cooperageref1_Make.l0] at H
          by_cases c5 : x9_2 < (l0.length : Int)
          · rw [if_pos c5] at H
            have c5b0 : decide (x9_2 < (l0.length : Int)) = true := decide_eq_true c5
            clear c5
            by_cases c6 : 0 ≤ x9_2
            · rw [if_pos c6] at H
              have c6b0 : decide (0 ≤ x9_2) = true := decide_eq_true c6
              clear c6
              replace H := Option.bind_eq_some_iff.mp H
              obtain ⟨t289, A70, H⟩ := H
              replace H : (if t289 = true then (if x1_2 = 0 then (none) else (if (Int.tmod x7_2 x1_2) = 0 then (if x5_2.length < 5864062014805 then (cooperageref1_Make.j2 k2 l0 x1_2 (x5_2 ++ [(⟨(rd_T34 l0 x9_2).f0, x8_2, x6_2⟩ : S31)]) x6_2 x7_2 x8_2 x9_2) else (none)) else (cooperageref1_Make.j2 k2 l0 x1_2 x5_2 x6_2 x7_2 x8_2 x9_2))) else (cooperageref1_Make.l0 k2 l0 x1_2 x5_2 x6_2 x7_2 x8_2 (wrap64 (x9_2 + 1)))) = some r := H
              have A7 := Aside0.mk A70
              clear A70
              by_cases c8 : t289 = true
              · subst c8
                have H1 : (if x1_2 = 0 then (none) else (if (Int.tmod x7_2 x1_2) = 0 then (if x5_2.length < 5864062014805 then (cooperageref1_Make.j2 k2 l0 x1_2 (x5_2 ++ [(⟨(rd_T34 l0 x9_2).f0, x8_2, x6_2⟩ : S31)]) x6_2 x7_2 x8_2 x9_2) else (none)) else (cooperageref1_Make.j2 k2 l0 x1_2 x5_2 x6_2 x7_2 x8_2 x9_2))) = some r := by rw [if_pos rfl] at H; exact H
                clear H
                have H := H1
                clear H1
                by_cases c9 : x1_2 = 0
                · rw [if_pos c9] at H
                  exact absurd H (by simp)
                · rw [if_neg c9] at H
                  have c9b0 : (x1_2 == 0) = false := beq_eq_false_iff_ne.mpr c9
                  have c9b1 : (x1_2 != 0) = true := bne_iff_ne.mpr c9
                  have HC10 := Aside0.mk H
                  clear H
                  have p288 : 0 ≤ (x9_2 : Int) := of_decide_eq_true (by first | (with_reducible assumption) | assumption)
                  have q288 : x9_2 < (l0.length : Int) := of_decide_eq_true (by first | (with_reducible assumption) | assumption)
                  obtain ⟨ad288, e288, hx288_0, hx288_1, hx288_2, hx288_3, hx288_4⟩ := at_T34 HR0.out x9_2 p288 q288
                  cases e288
                  replace hx288_0 := (HB.out.cell (World.block_lt_of_cell? w _ hx288_0)).trans hx288_0
                  replace hx288_1 := (HB.out.cell (World.block_lt_of_cell? w _ hx288_1)).trans hx288_1
                  replace hx288_2 := (HB.out.cell (World.block_lt_of_cell? w _ hx288_2)).trans hx288_2
                  replace hx288_3 := (HB.out.cell (World.block_lt_of_cell? w _ hx288_3)).trans hx288_3
                  replace hx288_4 := (HB.out.cell (World.block_lt_of_cell? w _ hx288_4)).trans hx288_4
                  replace p288 := eq_true p288
                  replace q288 := eq_true q288
                  go_upto_if 27 with (first | ((with_reducible refine gate_callee (f := 16) rfl ?_); refine goesL_ (some 22) rfl rfl Try.func16 (by kernel_rfl) rfl #[.agg #[.int .i64 ((rd_T34 l0 x9_2).f0), .int .i64 ((rd_T34 l0 x9_2).f1), .string ((rd_T34 l0 x9_2).f2), .string ((rd_T34 l0 x9_2).f3), .bool ((rd_T34 l0 x9_2).f4)]] rfl (by (try simp only [List.map_toArray, List.map_cons, List.map_nil]); first | done | rfl | (simp only [List.length_drop, List.length_take]; rfl)) ?_; (with_reducible refine (cooperageref1_Right.calls ((rd_T34 l0 x9_2).f0) ((rd_T34 l0 x9_2).f1) ((rd_T34 l0 x9_2).f2) ((rd_T34 l0 x9_2).f3) ((rd_T34 l0 x9_2).f4) true _ A7.out).mono ?_); rintro e w11 ⟨rfl, hb⟩; refine ⟨_, rfl, ?_⟩; have n0_ := Aside0.mk (Kd.R_below (by (with_reducible repeat (first | apply Kd.R_alloc | apply Kd.R_drewN | apply Kd.R_drew)); exact HO_5.out) hb); have n1_ := Aside0.mk (below_step (by repeat (first | (with_reducible first | exact HB.out | apply below_alloc | apply pw_below_drewN | apply below_drew1) | exact HB.out)) hb); clear HO_5; clear HB; have HO_5 := n0_; have HB := n1_; clear n0_ n1_; (try clear hb); (try clear hb2); (try clear hk); (try clear hi)))
                  (try simp only [Act.put, List.setIfInBounds_toArray, List.set_cons_zero, List.set_cons_succ])
                  go_cut [5] (fun v5 wc => ∃ (kq : Nat) (x5_9 : List (S31)), Aside0 (cooperageref1_Make.j2 kq l0 x1_2 x5_9 x6_2 x7_2 x8_2 x9_2 = some r) ∧ Aside0 (kq ≤ k2) ∧ Aside0 (Kd.R k31 31 wc w.heap.size (fun _ => True) v5 x5_9) ∧ Aside0 (Below w.heap.size w wc))
                  case first =>
                    have H := HC10.out
                    clear HC10
                    by_cases c12 : (Int.tmod x7_2 x1_2) = 0
                    · rw [if_pos c12] at H
                      have c12b0 : ((Int.tmod x7_2 x1_2) == 0) = true := beq_iff_eq.mpr c12
                      have c12b1 : ((Int.tmod x7_2 x1_2) != 0) = false := bne_eq_false_iff_eq.mpr c12
                      clear c12
                      (first | rw [c12b0] | (simp only [i64_w, i32_w]; rw [c12b0]) | skip)
                      by_cases c13 : x5_2.length < 5864062014805
                      · rw [if_pos c13] at H
                        have LMc13 := Aside0.mk c13
                        clear c13
                        obtain ⟨y291, hy291⟩ : ∃ y_ : List (S31), y_ = (x5_2 ++ [(⟨(rd_T34 l0 x9_2).f0, x8_2, x6_2⟩ : S31)]) := ⟨_, rfl⟩
                        replace H : (cooperageref1_Make.j2 k2 l0 x1_2 y291 x6_2 x7_2 x8_2 x9_2) = some r := by first | (rw [hy291]; with_reducible exact H) | (have H2_ := (Option.bind_some _ _).symm.trans H; rw [hy291]; with_reducible exact H2_) | (have H2_ := (Option.bind_some _ _).symm.trans H; with_reducible exact H2_) | with_reducible exact H | (rw [hy291]; exact H) | exact H
                        have Ny291 := Aside0.mk hy291
                        clear hy291
                        have H' := Aside0.mk H
                        clear H
                        have p290 : 0 ≤ (x9_2 : Int) := of_decide_eq_true (by first | (with_reducible assumption) | assumption)
                        have q290 : x9_2 < (l0.length : Int) := of_decide_eq_true (by first | (with_reducible assumption) | assumption)
                        obtain ⟨ad290, e290, hx290_0, hx290_1, hx290_2, hx290_3, hx290_4⟩ := at_T34 HR0.out x9_2 p290 q290
                        obtain rfl : ad288 = ad290 := (by injection e290)
                        replace hx290_0 := (HB.out.cell (World.block_lt_of_cell? w _ hx290_0)).trans hx290_0
                        replace hx290_1 := (HB.out.cell (World.block_lt_of_cell? w _ hx290_1)).trans hx290_1
                        replace hx290_2 := (HB.out.cell (World.block_lt_of_cell? w _ hx290_2)).trans hx290_2
                        replace hx290_3 := (HB.out.cell (World.block_lt_of_cell? w _ hx290_3)).trans hx290_3
                        replace hx290_4 := (HB.out.cell (World.block_lt_of_cell? w _ hx290_4)).trans hx290_4
                        replace p290 := eq_true p290
                        replace q290 := eq_true q290
                        go_wp2_with (first | ((with_reducible refine gate_builtin (b := .append) (xs := #[(.tmp 28), .tmp 37]) rfl ?_); at_builtin; refine Kd.R_append k31 (w0 := w) w.heap.size rfl (.tmp 28) (.tmp 37) 25 31 (.agg #[(.int .i64 0), (.int .i64 0), (.int .i64 0)]) 24 rfl Try.underlying25 info31 rfl (by decide) (by omega) u5 x5_2 (⟨(rd_T34 l0 x9_2).f0, x8_2, x6_2⟩ : S31) [.int .i64 ((rd_T34 l0 x9_2).f0), .int .i64 x8_2, .int .i64 x6_2] (fun _ => True) (fun _ => False) rfl rfl ?aP (fun _ hk => hk.elim) ?aF ?aO ?aB ?aS ?aL ?_; (case aP => exact k31_mkM _ _ _ (⟨(rd_T34 l0 x9_2).f0, x8_2, x6_2⟩ : S31)); (case aB => exact (by repeat (first | (with_reducible first | exact HB.out | apply below_alloc | apply pw_below_drewN | apply below_drew1) | exact HB.out))); (case aF => exact (fun _ _ => trivial)); (case aO => exact (by (with_reducible repeat (first | apply Kd.R_alloc | apply Kd.R_drewN | apply Kd.R_drew)); exact HO_5.out)); (case aS => exact (below_size (by repeat (first | (with_reducible first | exact HB.out | apply below_alloc | apply pw_below_drewN | apply below_drew1) | exact HB.out)))); (case aL => have := LMc13.out; omega); intro v292 w14 ho hb hg hat; rw [← Ny291.out] at ho; have n0_ := Aside0.mk (hb); have n1_ := Aside0.mk (ho); clear HB; clear HO_5; have HB := n0_; have HO293 := n1_; clear n0_ n1_; clear ho hb hg hat))
                        go_meet
                        case rel => exact ⟨_, (y291), H', ⟨by have := HJ2.out; have := HK2.out; first | omega | exact Nat.le_refl _⟩, ⟨by (with_reducible repeat (first | apply Kd.R_alloc | apply Kd.R_drewN | apply Kd.R_drew)); exact HO293.out⟩, ⟨by repeat (first | (with_reducible first | exact HB.out | apply below_alloc | apply pw_below_drewN | apply below_drew1) | exact HB.out)⟩⟩
                      · rw [if_neg c13] at H
                        exact absurd H (by simp)
                    · rw [if_neg c12] at H
                      have c12b0 : ((Int.tmod x7_2 x1_2) == 0) = false := beq_eq_false_iff_ne.mpr c12
                      have c12b1 : ((Int.tmod x7_2 x1_2) != 0) = true := bne_iff_ne.mpr c12
                      (first | rw [c12b0] | (simp only [i64_w, i32_w]; rw [c12b0]) | skip)
                      have H' := Aside0.mk H
                      clear H
                      go_wp2
                      go_meet
                      case rel => exact ⟨_, (x5_2), H', ⟨by have := HJ2.out; have := HK2.out; first | omega | exact Nat.le_refl _⟩, ⟨by (with_reducible repeat (first | apply Kd.R_alloc | apply Kd.R_drewN | apply Kd.R_drew)); exact HO_5.out⟩, ⟨by repeat (first | (with_reducible first | exact HB.out | apply below_alloc | apply pw_below_drewN | apply below_drew1) | exact HB.out)⟩⟩
                  case rest =>
                    clear HC10
                    try clear c1
                    try clear p2
                    try clear q2
                    try clear hx2
                    try clear c4
                    try clear c4b0
                    try clear c5
                    try clear c5b0
                    try clear c6
                    try clear c6b0
                    try clear p6
                    try clear c8
                    try clear c9
                    try clear c9b0
                    try clear c9b1
                    try clear c12
                    try clear c12b0
                    try clear c12b1
                    try clear c13
                    try clear hx288_0
                    try clear hx288_1
                    try clear hx288_2
                    try clear hx288_3
                    try clear hx288_4
                    try clear hx290_0
                    try clear hx290_1
                    try clear hx290_2
                    try clear hx290_3
                    try clear hx290_4
                    try clear p2
                    try clear p288
                    try clear p290
                    try clear q288
                    try clear q290
                    obtain ⟨kq, x5_9, HA, HJ9, HO_5, HB⟩ := hcut
                    cases kq with
                    | zero => exact absurd HA.out (by simp [cooperageref1_Make.j2])
                    | succ kj9 =>
                      have H := HA.out
                      clear HA
                      simp only [cooperageref1_Make.j2] at H
                      by_cases c15 : 0 ≤ x9_2
                      · rw [if_pos c15] at H
                        have c15b0 : decide (0 ≤ x9_2) = true := decide_eq_true c15
                        clear c15
                        by_cases c16 : x9_2 < (l0.length : Int)
                        · rw [if_pos c16] at H
                          have c16b0 : decide (x9_2 < (l0.length : Int)) = true := decide_eq_true c16
                          clear c16
                          by_cases c17 : ((rd_T34 l0 x9_2).f1) > x8_2
                          · rw [if_pos c17] at H
                            have c17b0 : decide (x8_2 < ((rd_T34 l0 x9_2).f1)) = true := decide_eq_true c17
                            clear c17
                            replace H := Option.bind_eq_some_iff.mp H
                            obtain ⟨t297, A180, H⟩ := H
                            replace H : ((cooperageref1_PutFrame.f kj9 ([] : List Int) t297).bind fun t300 => (cooperageref1_Make.l0 kj9 l0 x1_2 x5_9 (wrap64 (x6_2 + (t300.length : Int))) (wrap64 (x7_2 + 1)) ((rd_T34 l0 x9_2).f1) (wrap64 (x9_2 + 1)))) = some r := H
                            have A18 := Aside0.mk A180
                            clear A180
                            replace H := Option.bind_eq_some_iff.mp H
                            obtain ⟨t300, A190, H⟩ := H
                            replace H : (cooperageref1_Make.l0 kj9 l0 x1_2 x5_9 (wrap64 (x6_2 + (t300.length : Int))) (wrap64 (x7_2 + 1)) ((rd_T34 l0 x9_2).f1) (wrap64 (x9_2 + 1))) = some r := H
                            have A19 := Aside0.mk A190
                            clear A190
                            have H' := Aside0.mk H
                            clear H
                            have p294 : 0 ≤ (x9_2 : Int) := of_decide_eq_true (by first | (with_reducible assumption) | assumption)
                            have q294 : x9_2 < (l0.length : Int) := of_decide_eq_true (by first | (with_reducible assumption) | assumption)
                            obtain ⟨ad294, e294, hx294_0, hx294_1, hx294_2, hx294_3, hx294_4⟩ := at_T34 HR0.out x9_2 p294 q294
                            obtain rfl : ad288 = ad294 := (by injection e294)
                            replace hx294_0 := (HB.out.cell (World.block_lt_of_cell? w _ hx294_0)).trans hx294_0
                            replace hx294_1 := (HB.out.cell (World.block_lt_of_cell? w _ hx294_1)).trans hx294_1
                            replace hx294_2 := (HB.out.cell (World.block_lt_of_cell? w _ hx294_2)).trans hx294_2
                            replace hx294_3 := (HB.out.cell (World.block_lt_of_cell? w _ hx294_3)).trans hx294_3
                            replace hx294_4 := (HB.out.cell (World.block_lt_of_cell? w _ hx294_4)).trans hx294_4
                            replace p294 := eq_true p294
                            replace q294 := eq_true q294
                            have p295 : 0 ≤ (x9_2 : Int) := of_decide_eq_true (by first | (with_reducible assumption) | assumption)
                            have q295 : x9_2 < (l0.length : Int) := of_decide_eq_true (by first | (with_reducible assumption) | assumption)
                            obtain ⟨ad295, e295, hx295_0, hx295_1, hx295_2, hx295_3, hx295_4⟩ := at_T34 HR0.out x9_2 p295 q295
                            obtain rfl : ad288 = ad295 := (by injection e295)
                            replace hx295_0 := (HB.out.cell (World.block_lt_of_cell? w _ hx295_0)).trans hx295_0
                            replace hx295_1 := (HB.out.cell (World.block_lt_of_cell? w _ hx295_1)).trans hx295_1
                            replace hx295_2 := (HB.out.cell (World.block_lt_of_cell? w _ hx295_2)).trans hx295_2
                            replace hx295_3 := (HB.out.cell (World.block_lt_of_cell? w _ hx295_3)).trans hx295_3
                            replace hx295_4 := (HB.out.cell (World.block_lt_of_cell? w _ hx295_4)).trans hx295_4
                            replace p295 := eq_true p295
                            replace q295 := eq_true q295
                            have p296 : 0 ≤ (x9_2 : Int) := of_decide_eq_true (by first | (with_reducible assumption) | assumption)
                            have q296 : x9_2 < (l0.length : Int) := of_decide_eq_true (by first | (with_reducible assumption) | assumption)
                            obtain ⟨ad296, e296, hx296_0, hx296_1, hx296_2, hx296_3, hx296_4⟩ := at_T34 HR0.out x9_2 p296 q296
                            obtain rfl : ad288 = ad296 := (by injection e296)
                            replace hx296_0 := (HB.out.cell (World.block_lt_of_cell? w _ hx296_0)).trans hx296_0
                            replace hx296_1 := (HB.out.cell (World.block_lt_of_cell? w _ hx296_1)).trans hx296_1
                            replace hx296_2 := (HB.out.cell (World.block_lt_of_cell? w _ hx296_2)).trans hx296_2
                            replace hx296_3 := (HB.out.cell (World.block_lt_of_cell? w _ hx296_3)).trans hx296_3
                            replace hx296_4 := (HB.out.cell (World.block_lt_of_cell? w _ hx296_4)).trans hx296_4
                            replace p296 := eq_true p296
                            replace q296 := eq_true q296
                            go_wp2_with (first | ((with_reducible refine gate_callee (f := 38) rfl ?_); refine goesL_ (some 58) rfl rfl Try.func38 (by kernel_rfl) rfl #[.slice none 0 0, .agg #[.int .i64 ((rd_T34 l0 x9_2).f0), .int .i64 ((rd_T34 l0 x9_2).f1), .string ((rd_T34 l0 x9_2).f2), .string ((rd_T34 l0 x9_2).f3), .bool ((rd_T34 l0 x9_2).f4)]] rfl (by (try simp only [List.map_toArray, List.map_cons, List.map_nil]); first | done | rfl | (simp only [List.length_drop, List.length_take]; rfl)) ?_; (refine (cooperageref1_PutRecord.calls kj9 _ _ ([] : List Int) ((rd_T34 l0 x9_2).f0) ((rd_T34 l0 x9_2).f1) ((rd_T34 l0 x9_2).f2) ((rd_T34 l0 x9_2).f3) ((rd_T34 l0 x9_2).f4) t297 _ ?side1 ?side2 A18.out).mono ?_); (case side1 => exact Kd.C_nil _ _); (case side2 => exact Nat.le_refl _); rintro e w20 ⟨v298, rfl, ho0, hb⟩; refine ⟨_, rfl, ?_⟩; have n0_ := Aside0.mk (Kd.R_below (by (with_reducible repeat (first | apply Kd.R_alloc | apply Kd.R_drewN | apply Kd.R_drew)); exact HO_5.out) hb); have n1_ := Aside0.mk (Kd.R_lower ho0 (below_size (by repeat (first | (with_reducible first | exact HB.out | apply below_alloc | apply pw_below_drewN | apply below_drew1) | exact HB.out)))); have n2_ := Aside0.mk (below_step (by repeat (first | (with_reducible first | exact HB.out | apply below_alloc | apply pw_below_drewN | apply below_drew1) | exact HB.out)) hb); clear HO_5; clear HB; have HO_5 := n0_; have HO299 := n1_; have HB := n2_; clear n0_ n1_ n2_; (try clear hb); (try clear hb2); (try clear hk); (try clear hi); (try clear ho0); obtain ⟨Ao21, co21, eo21⟩ := Kd.R_slice HO299.out; subst eo21) | ((with_reducible refine gate_callee (f := 37) rfl ?_); refine goesL_ (some 59) rfl rfl Try.func37 (by kernel_rfl) rfl #[.slice none 0 0, .slice Ao21 t297.length co21] rfl (by (try simp only [List.map_toArray, List.map_cons, List.map_nil]); first | done | rfl | (simp only [List.length_drop, List.length_take]; rfl)) ?_; (refine (cooperageref1_PutFrame.calls kj9 _ _ ([] : List Int) _ _ t297 t300 _ ?side1 ?side2 ?side3 ?side4 A19.out).mono ?_); (case side1 => exact Kd.C_nil _ _); (case side2 => exact Nat.le_refl _); (case side3 => repeat (first | exact (Kd.R_reads' HO299.out).2.2 | (with_reducible refine Kd.C_alloc ?_ _) | (with_reducible refine Kd.C_drewN ?_ _) | (with_reducible refine Kd.C_drew ?_))); (case side4 => exact (Kd.R_reads' HO299.out).2.1); rintro e w22 ⟨v301, rfl, ho0, hb⟩; refine ⟨_, rfl, ?_⟩; have n0_ := Aside0.mk (Kd.R_below (by (with_reducible repeat (first | apply Kd.R_alloc | apply Kd.R_drewN | apply Kd.R_drew)); exact HO_5.out) hb); have n1_ := Aside0.mk (Kd.R_elder' (by (with_reducible repeat (first | apply Kd.R_alloc | apply Kd.R_drewN | apply Kd.R_drew)); exact HO299.out) (Kd.R_base ho0) hb); have n2_ := Aside0.mk (Kd.R_lower (Kd.R_new' ho0 (Kd.R_lt (by (with_reducible repeat (first | apply Kd.R_alloc | apply Kd.R_drewN | apply Kd.R_drew)); exact HO299.out))) (below_size (by repeat (first | (with_reducible first | exact HB.out | apply below_alloc | apply pw_below_drewN | apply below_drew1) | exact HB.out)))); have n3_ := Aside0.mk (below_step (by repeat (first | (with_reducible first | exact HB.out | apply below_alloc | apply pw_below_drewN | apply below_drew1) | exact HB.out)) hb); clear HO_5; clear HO299; clear HB; have HO_5 := n0_; have HO299 := n1_; have HO302 := n2_; have HB := n3_; clear n0_ n1_ n2_ n3_; (try clear hb); (try clear hb2); (try clear hk); (try clear hi); (try clear ho0); obtain ⟨Ao23, co23, eo23⟩ := Kd.R_slice HO302.out; subst eo23))
                            go_roundg kj9
                            case measure => have := HJ2.out; have := HK2.out; have := HJ9.out; omega
                            case rel => exact ⟨(x5_9), (wrap64 (x6_2 + (t300.length : Int))), (wrap64 (x7_2 + 1)), ((rd_T34 l0 x9_2).f1), (wrap64 (x9_2 + 1)), (by first | rfl | (simp; done) | (simp [*]; done)), (by first | rfl | (simp; done) | (simp [*]; done)), (by first | rfl | (simp; done) | (simp [*]; done)), (by first | rfl | (simp; done) | (simp [*]; done)), H', ⟨by have := HJ2.out; have := HK2.out; have := HJ9.out; omega⟩, ⟨by (with_reducible repeat (first | apply Kd.R_alloc | apply Kd.R_drewN | apply Kd.R_drew)); exact HO_5.out⟩, ⟨by repeat (first | (with_reducible first | exact HB.out | apply below_alloc | apply pw_below_drewN | apply below_drew1) | exact HB.out)⟩⟩
                          · rw [if_neg c17] at H
                            have c17b0 : decide (x8_2 < ((rd_T34 l0 x9_2).f1)) = false := decide_eq_false c17
                            clear c17
                            replace H := Option.bind_eq_some_iff.mp H
                            obtain ⟨t304, A240, H⟩ := H
                            replace H : ((cooperageref1_PutFrame.f kj9 ([] : List Int) t304).bind fun t307 => (cooperageref1_Make.l0 kj9 l0 x1_2 x5_9 (wrap64 (x6_2 + (t307.length : Int))) (wrap64 (x7_2 + 1)) x8_2 (wrap64 (x9_2 + 1)))) = some r := H
                            have A24 := Aside0.mk A240
                            clear A240
                            replace H := Option.bind_eq_some_iff.mp H
                            obtain ⟨t307, A250, H⟩ := H
                            replace H : (cooperageref1_Make.l0 kj9 l0 x1_2 x5_9 (wrap64 (x6_2 + (t307.length : Int))) (wrap64 (x7_2 + 1)) x8_2 (wrap64 (x9_2 + 1))) = some r := H
                            have A25 := Aside0.mk A250
                            clear A250
                            have H' := Aside0.mk H
                            clear H
                            have p294 : 0 ≤ (x9_2 : Int) := of_decide_eq_true (by first | (with_reducible assumption) | assumption)
                            have q294 : x9_2 < (l0.length : Int) := of_decide_eq_true (by first | (with_reducible assumption) | assumption)
                            obtain ⟨ad294, e294, hx294_0, hx294_1, hx294_2, hx294_3, hx294_4⟩ := at_T34 HR0.out x9_2 p294 q294
                            obtain rfl : ad288 = ad294 := (by injection e294)
                            replace hx294_0 := (HB.out.cell (World.block_lt_of_cell? w _ hx294_0)).trans hx294_0
                            replace hx294_1 := (HB.out.cell (World.block_lt_of_cell? w _ hx294_1)).trans hx294_1
                            replace hx294_2 := (HB.out.cell (World.block_lt_of_cell? w _ hx294_2)).trans hx294_2
                            replace hx294_3 := (HB.out.cell (World.block_lt_of_cell? w _ hx294_3)).trans hx294_3
                            replace hx294_4 := (HB.out.cell (World.block_lt_of_cell? w _ hx294_4)).trans hx294_4
                            replace p294 := eq_true p294
                            replace q294 := eq_true q294
                            have p303 : 0 ≤ (x9_2 : Int) := of_decide_eq_true (by first | (with_reducible assumption) | assumption)
                            have q303 : x9_2 < (l0.length : Int) := of_decide_eq_true (by first | (with_reducible assumption) | assumption)
                            obtain ⟨ad303, e303, hx303_0, hx303_1, hx303_2, hx303_3, hx303_4⟩ := at_T34 HR0.out x9_2 p303 q303
                            obtain rfl : ad288 = ad303 := (by injection e303)
                            replace hx303_0 := (HB.out.cell (World.block_lt_of_cell? w _ hx303_0)).trans hx303_0
                            replace hx303_1 := (HB.out.cell (World.block_lt_of_cell? w _ hx303_1)).trans hx303_1
                            replace hx303_2 := (HB.out.cell (World.block_lt_of_cell? w _ hx303_2)).trans hx303_2
                            replace hx303_3 := (HB.out.cell (World.block_lt_of_cell? w _ hx303_3)).trans hx303_3
                            replace hx303_4 := (HB.out.cell (World.block_lt_of_cell? w _ hx303_4)).trans hx303_4
                            replace p303 := eq_true p303
                            replace q303 := eq_true q303
                            go_wp2_with (first | ((with_reducible refine gate_callee (f := 38) rfl ?_); refine goesL_ (some 58) rfl rfl Try.func38 (by kernel_rfl) rfl #[.slice none 0 0, .agg #[.int .i64 ((rd_T34 l0 x9_2).f0), .int .i64 ((rd_T34 l0 x9_2).f1), .string ((rd_T34 l0 x9_2).f2), .string ((rd_T34 l0 x9_2).f3), .bool ((rd_T34 l0 x9_2).f4)]] rfl (by (try simp only [List.map_toArray, List.map_cons, List.map_nil]); first | done | rfl | (simp only [List.length_drop, List.length_take]; rfl)) ?_; (refine (cooperageref1_PutRecord.calls kj9 _ _ ([] : List Int) ((rd_T34 l0 x9_2).f0) ((rd_T34 l0 x9_2).f1) ((rd_T34 l0 x9_2).f2) ((rd_T34 l0 x9_2).f3) ((rd_T34 l0 x9_2).f4) t304 _ ?side1 ?side2 A24.out).mono ?_); (case side1 => exact Kd.C_nil _ _); (case side2 => exact Nat.le_refl _); rintro e w26 ⟨v305, rfl, ho0, hb⟩; refine ⟨_, rfl, ?_⟩; have n0_ := Aside0.mk (Kd.R_below (by (with_reducible repeat (first | apply Kd.R_alloc | apply Kd.R_drewN | apply Kd.R_drew)); exact HO_5.out) hb); have n1_ := Aside0.mk (Kd.R_lower ho0 (below_size (by repeat (first | (with_reducible first | exact HB.out | apply below_alloc | apply pw_below_drewN | apply below_drew1) | exact HB.out)))); have n2_ := Aside0.mk (below_step (by repeat (first | (with_reducible first | exact HB.out | apply below_alloc | apply pw_below_drewN | apply below_drew1) | exact HB.out)) hb); clear HO_5; clear HB; have HO_5 := n0_; have HO306 := n1_; have HB := n2_; clear n0_ n1_ n2_; (try clear hb); (try clear hb2); (try clear hk); (try clear hi); (try clear ho0); obtain ⟨Ao27, co27, eo27⟩ := Kd.R_slice HO306.out; subst eo27) | ((with_reducible refine gate_callee (f := 37) rfl ?_); refine goesL_ (some 59) rfl rfl Try.func37 (by kernel_rfl) rfl #[.slice none 0 0, .slice Ao27 t304.length co27] rfl (by (try simp only [List.map_toArray, List.map_cons, List.map_nil]); first | done | rfl | (simp only [List.length_drop, List.length_take]; rfl)) ?_; (refine (cooperageref1_PutFrame.calls kj9 _ _ ([] : List Int) _ _ t304 t307 _ ?side1 ?side2 ?side3 ?side4 A25.out).mono ?_); (case side1 => exact Kd.C_nil _ _); (case side2 => exact Nat.le_refl _); (case side3 => repeat (first | exact (Kd.R_reads' HO306.out).2.2 | (with_reducible refine Kd.C_alloc ?_ _) | (with_reducible refine Kd.C_drewN ?_ _) | (with_reducible refine Kd.C_drew ?_))); (case side4 => exact (Kd.R_reads' HO306.out).2.1); rintro e w28 ⟨v308, rfl, ho0, hb⟩; refine ⟨_, rfl, ?_⟩; have n0_ := Aside0.mk (Kd.R_below (by (with_reducible repeat (first | apply Kd.R_alloc | apply Kd.R_drewN | apply Kd.R_drew)); exact HO_5.out) hb); have n1_ := Aside0.mk (Kd.R_elder' (by (with_reducible repeat (first | apply Kd.R_alloc | apply Kd.R_drewN | apply Kd.R_drew)); exact HO306.out) (Kd.R_base ho0) hb); have n2_ := Aside0.mk (Kd.R_lower (Kd.R_new' ho0 (Kd.R_lt (by (with_reducible repeat (first | apply Kd.R_alloc | apply Kd.R_drewN | apply Kd.R_drew)); exact HO306.out))) (below_size (by repeat (first | (with_reducible first | exact HB.out | apply below_alloc | apply pw_below_drewN | apply below_drew1) | exact HB.out)))); have n3_ := Aside0.mk (below_step (by repeat (first | (with_reducible first | exact HB.out | apply below_alloc | apply pw_below_drewN | apply below_drew1) | exact HB.out)) hb); clear HO_5; clear HO306; clear HB; have HO_5 := n0_; have HO306 := n1_; have HO309 := n2_; have HB := n3_; clear n0_ n1_ n2_ n3_; (try clear hb); (try clear hb2); (try clear hk); (try clear hi); (try clear ho0); obtain ⟨Ao29, co29, eo29⟩ := Kd.R_slice HO309.out; subst eo29))
                            go_roundg kj9
                            case measure => have := HJ2.out; have := HK2.out; have := HJ9.out; omega
                            case rel => exact ⟨(x5_9), (wrap64 (x6_2 + (t307.length : Int))), (wrap64 (x7_2 + 1)), (x8_2), (wrap64 (x9_2 + 1)), (by first | rfl | (simp; done) | (simp [*]; done)), (by first | rfl | (simp; done) | (simp [*]; done)), (by first | rfl | (simp; done) | (simp [*]; done)), (by first | rfl | (simp; done) | (simp [*]; done)), H', ⟨by have := HJ2.out; have := HK2.out; have := HJ9.out; omega⟩, ⟨by (with_reducible repeat (first | apply Kd.R_alloc | apply Kd.R_drewN | apply Kd.R_drew)); exact HO_5.out⟩, ⟨by repeat (first | (with_reducible first | exact HB.out | apply below_alloc | apply pw_below_drewN | apply below_drew1) | exact HB.out)⟩⟩
                        · rw [if_neg c16] at H
                          exact absurd H (by simp)
                      · rw [if_neg c15] at H
                        exact absurd H (by simp)
              · replace c8 := Bool.eq_false_iff.mpr c8
                subst c8
                have H1 : (cooperageref1_Make.l0 k2 l0 x1_2 x5_2 x6_2 x7_2 x8_2 (wrap64 (x9_2 + 1))) = some r := by rw [if_neg (show ¬ (false = true) by decide)] at H; exact H
                clear H
                have H := H1
                clear H1
                have H' := Aside0.mk H
                clear H
                have p288 : 0 ≤ (x9_2 : Int) := of_decide_eq_true (by first | (with_reducible assumption) | assumption)
                have q288 : x9_2 < (l0.length : Int) := of_decide_eq_true (by first | (with_reducible assumption) | assumption)
                obtain ⟨ad288, e288, hx288_0, hx288_1, hx288_2, hx288_3, hx288_4⟩ := at_T34 HR0.out x9_2 p288 q288
                cases e288
                replace hx288_0 := (HB.out.cell (World.block_lt_of_cell? w _ hx288_0)).trans hx288_0
                replace hx288_1 := (HB.out.cell (World.block_lt_of_cell? w _ hx288_1)).trans hx288_1
                replace hx288_2 := (HB.out.cell (World.block_lt_of_cell? w _ hx288_2)).trans hx288_2
                replace hx288_3 := (HB.out.cell (World.block_lt_of_cell? w _ hx288_3)).trans hx288_3
                replace hx288_4 := (HB.out.cell (World.block_lt_of_cell? w _ hx288_4)).trans hx288_4
                replace p288 := eq_true p288
                replace q288 := eq_true q288
                go_wp2_with (first | ((with_reducible refine gate_callee (f := 16) rfl ?_); refine goesL_ (some 22) rfl rfl Try.func16 (by kernel_rfl) rfl #[.agg #[.int .i64 ((rd_T34 l0 x9_2).f0), .int .i64 ((rd_T34 l0 x9_2).f1), .string ((rd_T34 l0 x9_2).f2), .string ((rd_T34 l0 x9_2).f3), .bool ((rd_T34 l0 x9_2).f4)]] rfl (by (try simp only [List.map_toArray, List.map_cons, List.map_nil]); first | done | rfl | (simp only [List.length_drop, List.length_take]; rfl)) ?_; (with_reducible refine (cooperageref1_Right.calls ((rd_T34 l0 x9_2).f0) ((rd_T34 l0 x9_2).f1) ((rd_T34 l0 x9_2).f2) ((rd_T34 l0 x9_2).f3) ((rd_T34 l0 x9_2).f4) false _ A7.out).mono ?_); rintro e w30 ⟨rfl, hb⟩; refine ⟨_, rfl, ?_⟩; have n0_ := Aside0.mk (Kd.R_below (by (with_reducible repeat (first | apply Kd.R_alloc | apply Kd.R_drewN | apply Kd.R_drew)); exact HO_5.out) hb); have n1_ := Aside0.mk (below_step (by repeat (first | (with_reducible first | exact HB.out | apply below_alloc | apply pw_below_drewN | apply below_drew1) | exact HB.out)) hb); clear HO_5; clear HB; have HO_5 := n0_; have HB := n1_; clear n0_ n1_; (try clear hb); (try clear hb2); (try clear hk); (try clear hi)))
                go_roundg k2
                case measure => have := HJ2.out; have := HK2.out; omega
                case rel => exact ⟨(x5_2), (x6_2), (x7_2), (x8_2), (wrap64 (x9_2 + 1)), (by first | rfl | (simp; done) | (simp [*]; done)), (by first | rfl | (simp; done) | (simp [*]; done)), (by first | rfl | (simp; done) | (simp [*]; done)), (by first | rfl | (simp; done) | (simp [*]; done)), H', ⟨by have := HJ2.out; have := HK2.out; omega⟩, ⟨by (with_reducible repeat (first | apply Kd.R_alloc | apply Kd.R_drewN | apply Kd.R_drew)); exact HO_5.out⟩, ⟨by repeat (first | (with_reducible first | exact HB.out | apply below_alloc | apply pw_below_drewN | apply below_drew1) | exact HB.out)⟩⟩
            · rw [if_neg c6] at H
              exact absurd H (by simp)
          · rw [if_neg c5] at H
            have c5b0 : decide (x9_2 < (l0.length : Int)) = false := decide_eq_false c5
            clear c5
            obtain rfl := Option.some.inj H
            go_wp2
            go_ret
            exact ⟨_, by first | rfl | (simp [errW_none, errW_some] <;> rfl) | (simp [*, errW_none, errW_some] <;> rfl) | (simp [errW_none, errW_some]; generalize ByteArray.toList _ = l_; cases l_ <;> rfl), by (with_reducible repeat (first | apply Kd.R_alloc | apply Kd.R_drewN | apply Kd.R_drew)); exact HO_5.out, by repeat (first | (with_reducible first | exact HB.out | apply below_alloc | apply pw_below_drewN | apply below_drew1) | exact HB.out)⟩

end Go.Proofs.Ytphnolgneojdhaa.S

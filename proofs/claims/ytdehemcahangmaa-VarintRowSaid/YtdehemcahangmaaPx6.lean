-- printed by a program of this session (a changed copy of the kit's printer)
import Derived.Test.YtdehemcahangmaaPx0
import Derived.Test.YtdehemcahangmaaPx2
import Derived.Test.YtdehemcahangmaaPx3
namespace Go.Proofs.Ytdehemcahangmaa.P
open Go.RowKit Go.Proofs.YtdehemcahangmaaW.PrintWords Go.Proofs.YtdehemcahangmaaW.PrintLast Go.Proofs.YtdehemcahangmaaW.PrintMore
attribute [local go_sem] max2_int min2_int max_two min_two max_three min_three max_four min_four   -- for this text's walks alone
set_option linter.unusedVariables false
set_option linter.unusedSimpArgs false

/-! ### cooperagelaw1_VarintRow: function 11 -/
mutual
def cooperagelaw1_VarintRow.j0 : Nat → List Int → Bool → Bool → Option (Bool)
  | 0, _, _, _ => none
  | k + 1, x0, x3, x18 => if x18 = true then (some x3) else (cooperagelaw1_VarintRow.l0 k x0 ([] : List Int) 0)
def cooperagelaw1_VarintRow.l0 : Nat → List Int → List Int → Int → Option (Bool)
  | 0, _, _, _ => none
  | k + 1, x0, x4, x5 => if x5 < (x0.length : Int) then (if 0 ≤ x5 then ((varint_Put.f k x4 (rd x0 x5)).bind fun t224 => (cooperagelaw1_VarintRow.l0 k x0 t224 (wrap64 (x5 + 1)))) else (none)) else (cooperagelaw1_VarintRow.l1 k x0 x4 0 0)
def cooperagelaw1_VarintRow.l1 : Nat → List Int → List Int → Int → Int → Option (Bool)
  | 0, _, _, _, _ => none
  | k + 1, x0, x4, x6, x7 => if x7 < (x0.length : Int) then (if x6 > (x4.length : Int) then (some false) else (if 0 ≤ x6 then (if x6 ≤ (x4.length : Int) then ((varint_Get.f k (x4.drop (x6 : Int).toNat)).bind fun bt231 => ((cooperagelaw1_num.f bt231.2.2).bind fun t234 => (if t234 = 0 then (if 0 ≤ x7 then (if bt231.1 = (rd x0 x7) then (if bt231.2.1 < 1 then (some false) else (cooperagelaw1_VarintRow.l1 k x0 x4 (wrap64 (x6 + bt231.2.1)) (wrap64 (x7 + 1)))) else (some false)) else (none)) else (some false)))) else (none)) else (none))) else (some (x6 == (x4.length : Int)))
end
def cooperagelaw1_VarintRow.f (k : Nat) (l0 : List Int) : Option (Bool) := (cooperagelaw1_alive.f k).bind fun t222 => (if t222 = true then (cooperagelaw1_VarintRow.j0 k l0 t222 (decide ((l0.length : Int) > 100))) else (cooperagelaw1_VarintRow.j0 k l0 t222 true))
theorem cooperagelaw1_VarintRow.mono_l : ∀ k, (∀ y0 y1 y2, LeO (cooperagelaw1_VarintRow.j0 k y0 y1 y2) (cooperagelaw1_VarintRow.j0 (k + 1) y0 y1 y2)) ∧ (∀ y0 y1 y2, LeO (cooperagelaw1_VarintRow.l0 k y0 y1 y2) (cooperagelaw1_VarintRow.l0 (k + 1) y0 y1 y2)) ∧ (∀ y0 y1 y2 y3, LeO (cooperagelaw1_VarintRow.l1 k y0 y1 y2 y3) (cooperagelaw1_VarintRow.l1 (k + 1) y0 y1 y2 y3))
  | 0 => ⟨fun _ _ _ r h => by simp [cooperagelaw1_VarintRow.j0] at h, fun _ _ _ r h => by simp [cooperagelaw1_VarintRow.l0] at h, fun _ _ _ _ r h => by simp [cooperagelaw1_VarintRow.l1] at h⟩
  | k + 1 => by
    obtain ⟨ih0, ih1, ih2⟩ := cooperagelaw1_VarintRow.mono_l k
    refine ⟨?_, ?_, ?_⟩
    · intro y0 y1 y2
      unfold cooperagelaw1_VarintRow.j0
      repeat' first
      | (with_reducible exact ih0 _ _ _)
      | (with_reducible exact ih1 _ _ _)
      | (with_reducible exact ih2 _ _ _ _)
      | (with_reducible exact cooperagelaw1_alive.mono _)
      | (with_reducible exact varint_Get.mono _ _)
      | (with_reducible exact varint_Put.mono _ _ _)
      | (with_reducible exact LeO.refl _)
      | (with_reducible exact LeO.none _)
      | (with_reducible refine LeO.ite ?_ ?_)
      | (with_reducible refine LeO.bind ?_ (fun _ => ?_))
      | exact ih0 _ _ _
      | exact ih1 _ _ _
      | exact ih2 _ _ _ _
      | exact cooperagelaw1_alive.mono _
      | exact varint_Get.mono _ _
      | exact varint_Put.mono _ _ _
      | exact LeO.none _
      | refine LeO.ite ?_ ?_
      | refine LeO.bind ?_ (fun _ => ?_)
    · intro y0 y1 y2
      unfold cooperagelaw1_VarintRow.l0
      repeat' first
      | (with_reducible exact ih0 _ _ _)
      | (with_reducible exact ih1 _ _ _)
      | (with_reducible exact ih2 _ _ _ _)
      | (with_reducible exact cooperagelaw1_alive.mono _)
      | (with_reducible exact varint_Get.mono _ _)
      | (with_reducible exact varint_Put.mono _ _ _)
      | (with_reducible exact LeO.refl _)
      | (with_reducible exact LeO.none _)
      | (with_reducible refine LeO.ite ?_ ?_)
      | (with_reducible refine LeO.bind ?_ (fun _ => ?_))
      | exact ih0 _ _ _
      | exact ih1 _ _ _
      | exact ih2 _ _ _ _
      | exact cooperagelaw1_alive.mono _
      | exact varint_Get.mono _ _
      | exact varint_Put.mono _ _ _
      | exact LeO.none _
      | refine LeO.ite ?_ ?_
      | refine LeO.bind ?_ (fun _ => ?_)
    · intro y0 y1 y2 y3
      unfold cooperagelaw1_VarintRow.l1
      repeat' first
      | (with_reducible exact ih0 _ _ _)
      | (with_reducible exact ih1 _ _ _)
      | (with_reducible exact ih2 _ _ _ _)
      | (with_reducible exact cooperagelaw1_alive.mono _)
      | (with_reducible exact varint_Get.mono _ _)
      | (with_reducible exact varint_Put.mono _ _ _)
      | (with_reducible exact LeO.refl _)
      | (with_reducible exact LeO.none _)
      | (with_reducible refine LeO.ite ?_ ?_)
      | (with_reducible refine LeO.bind ?_ (fun _ => ?_))
      | exact ih0 _ _ _
      | exact ih1 _ _ _
      | exact ih2 _ _ _ _
      | exact cooperagelaw1_alive.mono _
      | exact varint_Get.mono _ _
      | exact varint_Put.mono _ _ _
      | exact LeO.none _
      | refine LeO.ite ?_ ?_
      | refine LeO.bind ?_ (fun _ => ?_)
theorem cooperagelaw1_VarintRow.mono : ∀ a0 k, LeO (cooperagelaw1_VarintRow.f k a0) (cooperagelaw1_VarintRow.f (k + 1) a0) := by
  intro a0 k
  obtain ⟨ih0, ih1, ih2⟩ := cooperagelaw1_VarintRow.mono_l k
  unfold cooperagelaw1_VarintRow.f
  repeat' first
      | (with_reducible exact ih0 _ _ _)
      | (with_reducible exact ih1 _ _ _)
      | (with_reducible exact ih2 _ _ _ _)
      | (with_reducible exact cooperagelaw1_alive.mono _)
      | (with_reducible exact varint_Get.mono _ _)
      | (with_reducible exact varint_Put.mono _ _ _)
      | (with_reducible exact LeO.refl _)
      | (with_reducible exact LeO.none _)
      | (with_reducible refine LeO.ite ?_ ?_)
      | (with_reducible refine LeO.bind ?_ (fun _ => ?_))
      | exact ih0 _ _ _
      | exact ih1 _ _ _
      | exact ih2 _ _ _ _
      | exact cooperagelaw1_alive.mono _
      | exact varint_Get.mono _ _
      | exact varint_Put.mono _ _ _
      | exact LeO.none _
      | refine LeO.ite ?_ ?_
      | refine LeO.bind ?_ (fun _ => ?_)
set_option maxHeartbeats 8000000 in
set_option maxRecDepth 100000 in
theorem cooperagelaw1_VarintRow.calls (k : Nat) (A0 : Option Addr) (c0 : Nat) (l0 : List Int) (r : Bool) (w : World) (hr0 : Kd.C (Kd.int .u64) w A0 l0.length l0) (hc0 : l0.length ≤ c0) (h : cooperagelaw1_VarintRow.f k l0 = some r) :
    Calls Try.prog 11 #[.slice A0 l0.length c0] w fun e w' => e = .returned (.bool r) ∧ Below w.heap.size w w' := by
  have HR0 := Aside0.mk hr0
  have HC0 := Aside0.mk hc0
  clear hr0 hc0
  have HB := Aside0.mk (Below.refl w.heap.size w)
  have H : ((cooperagelaw1_alive.f k).bind fun t222 => (if t222 = true then (cooperagelaw1_VarintRow.j0 k l0 t222 (decide ((l0.length : Int) > 100))) else (cooperagelaw1_VarintRow.j0 k l0 t222 true))) = some r := h
  clear h
  replace H := Option.bind_eq_some_iff.mp H
  obtain ⟨t222, A20, H⟩ := H
  replace H : (if t222 = true then (cooperagelaw1_VarintRow.j0 k l0 t222 (decide ((l0.length : Int) > 100))) else (cooperagelaw1_VarintRow.j0 k l0 t222 true)) = some r := H
  have A2 := Aside0.mk A20
  clear A20
  have HC3 := Aside0.mk H
  clear H
  go_enter Try.func11, Try.ntmps11
  go_upto_region 2 with (first | ((with_reducible refine gate_callee (f := 17) rfl ?_); refine goesL_ (some 11) rfl rfl Try.func17 (by kernel_rfl) rfl #[] rfl (by (try simp only [List.map_toArray, List.map_cons, List.map_nil]); first | done | rfl | (simp only [List.length_drop, List.length_take]; rfl)) ?_; (with_reducible refine (cooperagelaw1_alive.calls k  t222 _ A2.out).mono ?_); rintro e w4 ⟨rfl, hb⟩; refine ⟨_, rfl, ?_⟩; have n0_ := Aside0.mk (below_step (by repeat (first | (with_reducible first | exact HB.out | apply below_alloc | apply pw_below_drewN | apply below_drew1) | exact HB.out)) hb); clear HB; have HB := n0_; clear n0_; (try clear hb); (try clear hb2); (try clear hk); (try clear hi)))
  (try simp only [Act.put, List.setIfInBounds_toArray, List.set_cons_zero, List.set_cons_succ])
  go_cut [18] (fun v18 wc => ∃ (kq : Nat) (x18_2 : Bool), v18 = .bool x18_2 ∧ Aside0 (cooperagelaw1_VarintRow.j0 kq l0 t222 x18_2 = some r) ∧ Aside0 (kq ≤ k) ∧ Aside0 (Below w.heap.size w wc))
  case first =>
    have H := HC3.out
    clear HC3
    by_cases c5 : t222 = true
    · subst c5
      have H1 : (cooperagelaw1_VarintRow.j0 k l0 true (decide ((l0.length : Int) > 100))) = some r := by rw [if_pos rfl] at H; exact H
      clear H
      have H := H1
      clear H1
      have H' := Aside0.mk H
      clear H
      go_wp2
      go_meet
      case rel => exact ⟨_, (decide ((l0.length : Int) > 100)), (by first | rfl | (simp; done) | (simp [*]; done)), H', ⟨by first | omega | exact Nat.le_refl _⟩, ⟨by repeat (first | (with_reducible first | exact HB.out | apply below_alloc | apply pw_below_drewN | apply below_drew1) | exact HB.out)⟩⟩
    · replace c5 := Bool.eq_false_iff.mpr c5
      subst c5
      have H1 : (cooperagelaw1_VarintRow.j0 k l0 false true) = some r := by rw [if_neg (show ¬ (false = true) by decide)] at H; exact H
      clear H
      have H := H1
      clear H1
      have H' := Aside0.mk H
      clear H
      go_wp2
      go_meet
      case rel => exact ⟨_, (true), (by first | rfl | (simp; done) | (simp [*]; done)), H', ⟨by first | omega | exact Nat.le_refl _⟩, ⟨by repeat (first | (with_reducible first | exact HB.out | apply below_alloc | apply pw_below_drewN | apply below_drew1) | exact HB.out)⟩⟩
  case rest =>
    clear HC3
    try clear c1
    try clear p2
    try clear c5
    obtain ⟨kq, x18_2, rfl, HA, HJ2, HB⟩ := hcut
    cases kq with
    | zero => exact absurd HA.out (by simp [cooperagelaw1_VarintRow.j0])
    | succ kj2 =>
      have H := HA.out
      clear HA
      simp only [cooperagelaw1_VarintRow.j0] at H
      by_cases c6 : x18_2 = true
      · subst c6
        have H1 : (some t222) = some r := by rw [if_pos rfl] at H; exact H
        clear H
        have H := H1
        clear H1
        obtain rfl := Option.some.inj H
        go_wp2
        go_ret
        exact ⟨by first | rfl | (simp [errW_none, errW_some] <;> rfl) | (simp [*, errW_none, errW_some] <;> rfl), by repeat (first | (with_reducible first | exact HB.out | apply below_alloc | apply pw_below_drewN | apply below_drew1) | exact HB.out)⟩
      · replace c6 := Bool.eq_false_iff.mpr c6
        subst c6
        have H1 : (cooperagelaw1_VarintRow.l0 kj2 l0 ([] : List Int) 0) = some r := by rw [if_neg (show ¬ (false = true) by decide)] at H; exact H
        clear H
        have H := H1
        clear H1
        have H' := Aside0.mk H
        clear H
        go_wp2
        go_loopg [4, 5] kj2 (fun kq v4 v5 w' => ∃ (x4_2 : List Int) (x5_2 : Int), v5 = .int .i64 x5_2 ∧ Aside0 (cooperagelaw1_VarintRow.l0 kq l0 x4_2 x5_2 = some r) ∧ Aside0 (kq ≤ kj2) ∧ Aside0 (Kd.R (Kd.int .u8) 5 w' w.heap.size (fun _ => True) v4 x4_2) ∧ Aside0 (Below w.heap.size w w'))
        case atStart => exact ⟨(([] : List Int)), (0), (by first | rfl | (simp; done) | (simp [*]; done)), H', ⟨Nat.le_refl _⟩, ⟨by first | exact Kd.R_nil _ _ _ _ _ | exact Kd.N_nil _ _ _ _ _ | exact Kd.V_nil _ _ _ _ _ | exact Kd.Q_nil _ _ _ _ _ | exact Kd.S_nil _ _ _ _ _⟩, ⟨by repeat (first | (with_reducible first | exact HB.out | apply below_alloc | apply pw_below_drewN | apply below_drew1) | exact HB.out)⟩⟩
        case round =>
          clear H'
          try clear c1
          try clear p2
          try clear c5
          try clear c6
          try clear p2
          obtain ⟨x4_2, x5_2, rfl, HA, HK2, HO_4, HB⟩ := hrel
          cases gk with
          | zero => exact absurd HA.out (by simp [cooperagelaw1_VarintRow.l0])
          | succ k2 =>
            have H := HA.out
            clear HA
            simp only [cooperagelaw1_VarintRow.l0] at H
            by_cases c7 : x5_2 < (l0.length : Int)
            · rw [if_pos c7] at H
              have c7b0 : decide (x5_2 < (l0.length : Int)) = true := decide_eq_true c7
              clear c7
              by_cases c8 : 0 ≤ x5_2
              · rw [if_pos c8] at H
                have c8b0 : decide (0 ≤ x5_2) = true := decide_eq_true c8
                clear c8
                replace H := Option.bind_eq_some_iff.mp H
                obtain ⟨t224, A90, H⟩ := H
                replace H : (cooperagelaw1_VarintRow.l0 k2 l0 t224 (wrap64 (x5_2 + 1))) = some r := H
                have A9 := Aside0.mk A90
                clear A90
                have H' := Aside0.mk H
                clear H
                have p223 : 0 ≤ (x5_2 : Int) := of_decide_eq_true (by first | (with_reducible assumption) | assumption)
                have q223 : x5_2 < (l0.length : Int) := of_decide_eq_true (by first | (with_reducible assumption) | assumption)
                obtain ⟨ad223, e223, hx223_0⟩ := Kd.at_int HR0.out x5_2 p223 q223
                cases e223
                replace hx223_0 := (HB.out.cell (World.block_lt_of_cell? w _ hx223_0)).trans hx223_0
                replace p223 := eq_true p223
                replace q223 := eq_true q223
                obtain ⟨Ao10, co10, eo10⟩ := Kd.R_slice HO_4.out
                subst eo10
                go_wp2_with (first | ((with_reducible refine gate_callee (f := 22) rfl ?_); refine goesL_ (some 31) rfl rfl Try.func22 (by kernel_rfl) rfl #[.slice Ao10 x4_2.length co10, .int .u64 (rd l0 x5_2)] rfl (by (try simp only [List.map_toArray, List.map_cons, List.map_nil]); first | done | rfl | (simp only [List.length_drop, List.length_take]; rfl)) ?_; (with_reducible refine (varint_Put.calls k2 _ _ x4_2 (rd l0 x5_2) t224 _ ?side1 ?side2 A9.out).mono ?_); (case side1 => repeat (first | exact (Kd.R_reads' HO_4.out).2.2 | (with_reducible refine Kd.C_alloc ?_ _) | (with_reducible refine Kd.C_drewN ?_ _) | (with_reducible refine Kd.C_drew ?_))); (case side2 => exact (Kd.R_reads' HO_4.out).2.1); rintro e w11 ⟨v225, rfl, ho0, hb⟩; refine ⟨_, rfl, ?_⟩; have n0_ := Aside0.mk (Kd.R_elder' (by (with_reducible repeat (first | apply Kd.R_alloc | apply Kd.R_drewN | apply Kd.R_drew)); exact HO_4.out) (Kd.R_base ho0) hb); have n1_ := Aside0.mk (Kd.R_lower (Kd.R_new' ho0 (Kd.R_lt (by (with_reducible repeat (first | apply Kd.R_alloc | apply Kd.R_drewN | apply Kd.R_drew)); exact HO_4.out))) (below_size (by repeat (first | (with_reducible first | exact HB.out | apply below_alloc | apply pw_below_drewN | apply below_drew1) | exact HB.out)))); have n2_ := Aside0.mk (below_step (by repeat (first | (with_reducible first | exact HB.out | apply below_alloc | apply pw_below_drewN | apply below_drew1) | exact HB.out)) hb); clear HO_4; clear HB; have HO_4 := n0_; have HO226 := n1_; have HB := n2_; clear n0_ n1_ n2_; (try clear hb); (try clear hb2); (try clear hk); (try clear hi); (try clear ho0)))
                go_roundg k2
                case measure => have := HJ2.out; have := HK2.out; omega
                case rel => exact ⟨(t224), (wrap64 (x5_2 + 1)), (by first | rfl | (simp; done) | (simp [*]; done)), H', ⟨by have := HJ2.out; have := HK2.out; omega⟩, ⟨by (with_reducible repeat (first | apply Kd.R_alloc | apply Kd.R_drewN | apply Kd.R_drew)); exact Kd.R_mono HO226.out (fun _ hk => trivial)⟩, ⟨by repeat (first | (with_reducible first | exact HB.out | apply below_alloc | apply pw_below_drewN | apply below_drew1) | exact HB.out)⟩⟩
              · rw [if_neg c8] at H
                exact absurd H (by simp)
            · rw [if_neg c7] at H
              have c7b0 : decide (x5_2 < (l0.length : Int)) = false := decide_eq_false c7
              clear c7
              have H' := Aside0.mk H
              clear H
              go_wp2
              go_loopg [6, 7] k2 (fun kq v6 v7 w' => ∃ (x6_3 : Int) (x7_3 : Int), v6 = .int .i64 x6_3 ∧ v7 = .int .i64 x7_3 ∧ Aside0 (cooperagelaw1_VarintRow.l1 kq l0 x4_2 x6_3 x7_3 = some r) ∧ Aside0 (kq ≤ k2) ∧ Aside0 (Kd.R (Kd.int .u8) 5 w' w.heap.size (fun _ => True) u4 x4_2) ∧ Aside0 (Below w.heap.size w w'))
              case atStart => exact ⟨(0), (0), (by first | rfl | (simp; done) | (simp [*]; done)), (by first | rfl | (simp; done) | (simp [*]; done)), H', ⟨Nat.le_refl _⟩, ⟨by (with_reducible repeat (first | apply Kd.R_alloc | apply Kd.R_drewN | apply Kd.R_drew)); exact HO_4.out⟩, ⟨by repeat (first | (with_reducible first | exact HB.out | apply below_alloc | apply pw_below_drewN | apply below_drew1) | exact HB.out)⟩⟩
              case round =>
                clear H'
                try clear c1
                try clear c2
                try clear p2
                try clear q2
                try clear hx2
                try clear c5
                try clear c6
                try clear p6
                try clear c7
                try clear c7b0
                try clear c8
                try clear c8b0
                try clear c11
                try clear hx223_0
                try clear p2
                try clear p223
                try clear q223
                obtain ⟨x6_3, x7_3, rfl, rfl, HA, HK3, HO_4, HB⟩ := hrel
                cases gk with
                | zero => exact absurd HA.out (by simp [cooperagelaw1_VarintRow.l1])
                | succ k3 =>
                  have H := HA.out
                  clear HA
                  simp only [cooperagelaw1_VarintRow.l1] at H
                  by_cases c12 : x7_3 < (l0.length : Int)
                  · rw [if_pos c12] at H
                    have c12b0 : decide (x7_3 < (l0.length : Int)) = true := decide_eq_true c12
                    clear c12
                    by_cases c13 : x6_3 > (x4_2.length : Int)
                    · rw [if_pos c13] at H
                      have c13b0 : decide ((x4_2.length : Int) < x6_3) = true := decide_eq_true c13
                      clear c13
                      obtain rfl := Option.some.inj H
                      obtain ⟨Ao14, co14, eo14⟩ := Kd.R_slice HO_4.out
                      subst eo14
                      go_wp2
                      go_ret
                      exact ⟨by first | rfl | (simp [errW_none, errW_some] <;> rfl) | (simp [*, errW_none, errW_some] <;> rfl), by repeat (first | (with_reducible first | exact HB.out | apply below_alloc | apply pw_below_drewN | apply below_drew1) | exact HB.out)⟩
                    · rw [if_neg c13] at H
                      have c13b0 : decide ((x4_2.length : Int) < x6_3) = false := decide_eq_false c13
                      clear c13
                      by_cases c15 : 0 ≤ x6_3
                      · rw [if_pos c15] at H
                        have c15b0 := eq_true c15
                        have c15b1 : decide (0 ≤ x6_3) = true := decide_eq_true c15
                        clear c15
                        by_cases c16 : x6_3 ≤ (x4_2.length : Int)
                        · rw [if_pos c16] at H
                          have c16b0 := eq_true c16
                          have c16b1 : decide (x6_3 ≤ (x4_2.length : Int)) = true := decide_eq_true c16
                          clear c16
                          obtain ⟨y227, hy227⟩ : ∃ y_ : List Int, y_ = (x4_2.drop (x6_3 : Int).toNat) := ⟨_, rfl⟩
                          replace H : ((varint_Get.f k3 y227).bind fun bt231 => ((cooperagelaw1_num.f bt231.2.2).bind fun t234 => (if t234 = 0 then (if 0 ≤ x7_3 then (if bt231.1 = (rd l0 x7_3) then (if bt231.2.1 < 1 then (some false) else (cooperagelaw1_VarintRow.l1 k3 l0 x4_2 (wrap64 (x6_3 + bt231.2.1)) (wrap64 (x7_3 + 1)))) else (some false)) else (none)) else (some false)))) = some r := by first | (rw [hy227]; with_reducible exact H) | (have H2_ := (Option.bind_some _ _).symm.trans H; rw [hy227]; with_reducible exact H2_) | (have H2_ := (Option.bind_some _ _).symm.trans H; with_reducible exact H2_) | with_reducible exact H | (rw [hy227]; exact H) | exact H
                          have Ny227 := Aside0.mk hy227
                          clear hy227
                          replace H := Option.bind_eq_some_iff.mp H
                          obtain ⟨⟨t231, t232, t233⟩, A170, H⟩ := H
                          replace H : ((cooperagelaw1_num.f t233).bind fun t234 => (if t234 = 0 then (if 0 ≤ x7_3 then (if t231 = (rd l0 x7_3) then (if t232 < 1 then (some false) else (cooperagelaw1_VarintRow.l1 k3 l0 x4_2 (wrap64 (x6_3 + t232)) (wrap64 (x7_3 + 1)))) else (some false)) else (none)) else (some false))) = some r := H
                          have A17 := Aside0.mk A170
                          clear A170
                          replace H := Option.bind_eq_some_iff.mp H
                          obtain ⟨t234, A180, H⟩ := H
                          replace H : (if t234 = 0 then (if 0 ≤ x7_3 then (if t231 = (rd l0 x7_3) then (if t232 < 1 then (some false) else (cooperagelaw1_VarintRow.l1 k3 l0 x4_2 (wrap64 (x6_3 + t232)) (wrap64 (x7_3 + 1)))) else (some false)) else (none)) else (some false)) = some r := H
                          have A18 := Aside0.mk A180
                          clear A180
                          by_cases c19 : t234 = 0
                          · rw [if_pos c19] at H
                            have c19b0 : (t234 == 0) = true := beq_iff_eq.mpr c19
                            have c19b1 : (t234 != 0) = false := bne_eq_false_iff_eq.mpr c19
                            clear c19
                            by_cases c20 : 0 ≤ x7_3
                            · rw [if_pos c20] at H
                              have c20b0 : decide (0 ≤ x7_3) = true := decide_eq_true c20
                              clear c20
                              by_cases c21 : t231 = (rd l0 x7_3)
                              · rw [if_pos c21] at H
                                have c21b0 : (t231 == (rd l0 x7_3)) = true := beq_iff_eq.mpr c21
                                have c21b1 : (t231 != (rd l0 x7_3)) = false := bne_eq_false_iff_eq.mpr c21
                                clear c21
                                by_cases c22 : t232 < 1
                                · rw [if_pos c22] at H
                                  have c22b0 : decide (t232 < 1) = true := decide_eq_true c22
                                  clear c22
                                  obtain rfl := Option.some.inj H
                                  obtain ⟨Ao23, co23, eo23⟩ := Kd.R_slice HO_4.out
                                  subst eo23
                                  have q24 : (x6_3 : Int) ≤ ((x4_2.length : Int) : Int) := of_decide_eq_true (by first | (with_reducible assumption) | assumption)
                                  obtain ⟨i024, hi024, _, hsz24, _⟩ := info_parts info5
                                  have hroom24 : x4_2.length ≤ co23 := (Kd.R_reads' HO_4.out).2.1
                                  have hC24 : Kd.C (Kd.int .u8) _ Ao23 x4_2.length x4_2 := (Kd.R_reads' HO_4.out).2.2
                                  have q024 : (0 : Int) ≤ (x6_3 : Int) := of_decide_eq_true (by first | (with_reducible assumption) | assumption)
                                  have hcut24 := cut_from (P := Try.prog) 22 5 .i64 Try.underlying22 hi024 1 hsz24 Ao23 x4_2.length co23 x6_3 q024 q24
                                  have hr24 := Kd.C_drop (m := (x6_3 : Int).toNat) (c := co23) hC24 (by omega) hroom24
                                  obtain ⟨A24, hA24⟩ : ∃ A1, A1 = (if co23 = (x6_3 : Int).toNat then Ao23 else (Ao23 : Option Addr).map (·.add ((x6_3 : Int).toNat * 1))) := ⟨_, rfl⟩
                                  obtain ⟨c24, hc24⟩ : ∃ c1, c1 = co23 - (x6_3 : Int).toNat := ⟨_, rfl⟩
                                  have hy24 : y227.length = x4_2.length - (x6_3 : Int).toNat := (by rw [Ny227.out, List.length_drop] <;> omega)
                                  rw [show (x4_2).drop (x6_3 : Int).toNat = y227 from Ny227.out.symm] at hr24
                                  replace hr24 : Kd.C (Kd.int .u8) _ A24 y227.length y227 := (by rw [hA24]; exact hr24)
                                  rw [← hy24, ← hA24, ← hc24] at hcut24
                                  have HR230 := Aside0.mk hr24
                                  have HC230 := Aside0.mk (show y227.length ≤ c24 from by rw [hy24, hc24]; exact Nat.sub_le_sub_right hroom24 _)
                                  clear hr24 hC24 hroom24 hi024 hsz24 hc24
                                  have KY24 := Aside0.mk hy24
                                  have KA24 := Aside0.mk hA24
                                  clear hy24 hA24
                                  have KL24 := Aside0.mk (show (x6_3 : Int).toNat ≤ x4_2.length from by omega)
                                  replace q24 := eq_true q24
                                  go_wp2_with (first | ((with_reducible refine gate_callee (f := 24) rfl ?_); refine goesL_ (some 46) rfl rfl Try.func24 (by kernel_rfl) rfl #[.slice A24 y227.length c24] rfl (by (try simp only [List.map_toArray, List.map_cons, List.map_nil]); first | done | rfl | (simp only [List.length_drop, List.length_take]; rfl)) ?_; (with_reducible refine (varint_Get.calls k3 _ _ y227 t231 t232 t233 _ ?side1 ?side2 A17.out).mono ?_); (case side1 => repeat (first | exact (by repeat (first | (with_reducible exact HR230.out) | (with_reducible refine Kd.C_alloc ?_ _) | (with_reducible refine Kd.C_drewN ?_ _) | (with_reducible refine Kd.C_drew ?_) | exact HR230.out)) | (with_reducible refine Kd.C_alloc ?_ _) | (with_reducible refine Kd.C_drewN ?_ _) | (with_reducible refine Kd.C_drew ?_))); (case side2 => exact HC230.out); rintro e w' ⟨rfl, ⟨nd, rfl⟩⟩; refine ⟨_, rfl, ?_⟩) | ((with_reducible refine gate_callee (f := 25) rfl ?_); refine goesL_ (some 51) rfl rfl Try.func25 (by kernel_rfl) rfl #[.int .i64 t233] rfl (by (try simp only [List.map_toArray, List.map_cons, List.map_nil]); first | done | rfl | (simp only [List.length_drop, List.length_take]; rfl)) ?_; (with_reducible refine (cooperagelaw1_num.calls t233 t234 _ A18.out).mono ?_); rintro e w' ⟨rfl, ⟨nd, rfl⟩⟩; refine ⟨_, rfl, ?_⟩; have p235 : 0 ≤ (x7_3 : Int) := of_decide_eq_true (by first | (with_reducible assumption) | assumption); have q235 : x7_3 < (l0.length : Int) := of_decide_eq_true (by first | (with_reducible assumption) | assumption); obtain ⟨ad235, e235, hx235_0⟩ := Kd.at_int HR0.out x7_3 p235 q235; cases e235; replace hx235_0 := (HB.out.cell (World.block_lt_of_cell? w _ hx235_0)).trans hx235_0; replace p235 := eq_true p235; replace q235 := eq_true q235))
                                  go_ret
                                  exact ⟨by first | rfl | (simp [errW_none, errW_some] <;> rfl) | (simp [*, errW_none, errW_some] <;> rfl), by repeat (first | (with_reducible first | exact HB.out | apply below_alloc | apply pw_below_drewN | apply below_drew1) | exact HB.out)⟩
                                · rw [if_neg c22] at H
                                  have c22b0 : decide (t232 < 1) = false := decide_eq_false c22
                                  clear c22
                                  have H' := Aside0.mk H
                                  clear H
                                  obtain ⟨Ao25, co25, eo25⟩ := Kd.R_slice HO_4.out
                                  subst eo25
                                  have q26 : (x6_3 : Int) ≤ ((x4_2.length : Int) : Int) := of_decide_eq_true (by first | (with_reducible assumption) | assumption)
                                  obtain ⟨i026, hi026, _, hsz26, _⟩ := info_parts info5
                                  have hroom26 : x4_2.length ≤ co25 := (Kd.R_reads' HO_4.out).2.1
                                  have hC26 : Kd.C (Kd.int .u8) _ Ao25 x4_2.length x4_2 := (Kd.R_reads' HO_4.out).2.2
                                  have q026 : (0 : Int) ≤ (x6_3 : Int) := of_decide_eq_true (by first | (with_reducible assumption) | assumption)
                                  have hcut26 := cut_from (P := Try.prog) 22 5 .i64 Try.underlying22 hi026 1 hsz26 Ao25 x4_2.length co25 x6_3 q026 q26
                                  have hr26 := Kd.C_drop (m := (x6_3 : Int).toNat) (c := co25) hC26 (by omega) hroom26
                                  obtain ⟨A26, hA26⟩ : ∃ A1, A1 = (if co25 = (x6_3 : Int).toNat then Ao25 else (Ao25 : Option Addr).map (·.add ((x6_3 : Int).toNat * 1))) := ⟨_, rfl⟩
                                  obtain ⟨c26, hc26⟩ : ∃ c1, c1 = co25 - (x6_3 : Int).toNat := ⟨_, rfl⟩
                                  have hy26 : y227.length = x4_2.length - (x6_3 : Int).toNat := (by rw [Ny227.out, List.length_drop] <;> omega)
                                  rw [show (x4_2).drop (x6_3 : Int).toNat = y227 from Ny227.out.symm] at hr26
                                  replace hr26 : Kd.C (Kd.int .u8) _ A26 y227.length y227 := (by rw [hA26]; exact hr26)
                                  rw [← hy26, ← hA26, ← hc26] at hcut26
                                  have HR230 := Aside0.mk hr26
                                  have HC230 := Aside0.mk (show y227.length ≤ c26 from by rw [hy26, hc26]; exact Nat.sub_le_sub_right hroom26 _)
                                  clear hr26 hC26 hroom26 hi026 hsz26 hc26
                                  have KY26 := Aside0.mk hy26
                                  have KA26 := Aside0.mk hA26
                                  clear hy26 hA26
                                  have KL26 := Aside0.mk (show (x6_3 : Int).toNat ≤ x4_2.length from by omega)
                                  replace q26 := eq_true q26
                                  go_wp2_with (first | ((with_reducible refine gate_callee (f := 24) rfl ?_); refine goesL_ (some 46) rfl rfl Try.func24 (by kernel_rfl) rfl #[.slice A26 y227.length c26] rfl (by (try simp only [List.map_toArray, List.map_cons, List.map_nil]); first | done | rfl | (simp only [List.length_drop, List.length_take]; rfl)) ?_; (with_reducible refine (varint_Get.calls k3 _ _ y227 t231 t232 t233 _ ?side1 ?side2 A17.out).mono ?_); (case side1 => repeat (first | exact (by repeat (first | (with_reducible exact HR230.out) | (with_reducible refine Kd.C_alloc ?_ _) | (with_reducible refine Kd.C_drewN ?_ _) | (with_reducible refine Kd.C_drew ?_) | exact HR230.out)) | (with_reducible refine Kd.C_alloc ?_ _) | (with_reducible refine Kd.C_drewN ?_ _) | (with_reducible refine Kd.C_drew ?_))); (case side2 => exact HC230.out); rintro e w' ⟨rfl, ⟨nd, rfl⟩⟩; refine ⟨_, rfl, ?_⟩) | ((with_reducible refine gate_callee (f := 25) rfl ?_); refine goesL_ (some 51) rfl rfl Try.func25 (by kernel_rfl) rfl #[.int .i64 t233] rfl (by (try simp only [List.map_toArray, List.map_cons, List.map_nil]); first | done | rfl | (simp only [List.length_drop, List.length_take]; rfl)) ?_; (with_reducible refine (cooperagelaw1_num.calls t233 t234 _ A18.out).mono ?_); rintro e w' ⟨rfl, ⟨nd, rfl⟩⟩; refine ⟨_, rfl, ?_⟩; have p235 : 0 ≤ (x7_3 : Int) := of_decide_eq_true (by first | (with_reducible assumption) | assumption); have q235 : x7_3 < (l0.length : Int) := of_decide_eq_true (by first | (with_reducible assumption) | assumption); obtain ⟨ad235, e235, hx235_0⟩ := Kd.at_int HR0.out x7_3 p235 q235; cases e235; replace hx235_0 := (HB.out.cell (World.block_lt_of_cell? w _ hx235_0)).trans hx235_0; replace p235 := eq_true p235; replace q235 := eq_true q235))
                                  go_roundg k3
                                  case measure => have := HJ2.out; have := HK2.out; have := HK3.out; omega
                                  case rel => exact ⟨(wrap64 (x6_3 + t232)), (wrap64 (x7_3 + 1)), (by first | rfl | (simp; done) | (simp [*]; done)), (by first | rfl | (simp; done) | (simp [*]; done)), H', ⟨by have := HJ2.out; have := HK2.out; have := HK3.out; omega⟩, ⟨by (with_reducible repeat (first | apply Kd.R_alloc | apply Kd.R_drewN | apply Kd.R_drew)); exact HO_4.out⟩, ⟨by repeat (first | (with_reducible first | exact HB.out | apply below_alloc | apply pw_below_drewN | apply below_drew1) | exact HB.out)⟩⟩
                              · rw [if_neg c21] at H
                                have c21b0 : (t231 == (rd l0 x7_3)) = false := beq_eq_false_iff_ne.mpr c21
                                have c21b1 : (t231 != (rd l0 x7_3)) = true := bne_iff_ne.mpr c21
                                obtain rfl := Option.some.inj H
                                obtain ⟨Ao27, co27, eo27⟩ := Kd.R_slice HO_4.out
                                subst eo27
                                have q28 : (x6_3 : Int) ≤ ((x4_2.length : Int) : Int) := of_decide_eq_true (by first | (with_reducible assumption) | assumption)
                                obtain ⟨i028, hi028, _, hsz28, _⟩ := info_parts info5
                                have hroom28 : x4_2.length ≤ co27 := (Kd.R_reads' HO_4.out).2.1
                                have hC28 : Kd.C (Kd.int .u8) _ Ao27 x4_2.length x4_2 := (Kd.R_reads' HO_4.out).2.2
                                have q028 : (0 : Int) ≤ (x6_3 : Int) := of_decide_eq_true (by first | (with_reducible assumption) | assumption)
                                have hcut28 := cut_from (P := Try.prog) 22 5 .i64 Try.underlying22 hi028 1 hsz28 Ao27 x4_2.length co27 x6_3 q028 q28
                                have hr28 := Kd.C_drop (m := (x6_3 : Int).toNat) (c := co27) hC28 (by omega) hroom28
                                obtain ⟨A28, hA28⟩ : ∃ A1, A1 = (if co27 = (x6_3 : Int).toNat then Ao27 else (Ao27 : Option Addr).map (·.add ((x6_3 : Int).toNat * 1))) := ⟨_, rfl⟩
                                obtain ⟨c28, hc28⟩ : ∃ c1, c1 = co27 - (x6_3 : Int).toNat := ⟨_, rfl⟩
                                have hy28 : y227.length = x4_2.length - (x6_3 : Int).toNat := (by rw [Ny227.out, List.length_drop] <;> omega)
                                rw [show (x4_2).drop (x6_3 : Int).toNat = y227 from Ny227.out.symm] at hr28
                                replace hr28 : Kd.C (Kd.int .u8) _ A28 y227.length y227 := (by rw [hA28]; exact hr28)
                                rw [← hy28, ← hA28, ← hc28] at hcut28
                                have HR230 := Aside0.mk hr28
                                have HC230 := Aside0.mk (show y227.length ≤ c28 from by rw [hy28, hc28]; exact Nat.sub_le_sub_right hroom28 _)
                                clear hr28 hC28 hroom28 hi028 hsz28 hc28
                                have KY28 := Aside0.mk hy28
                                have KA28 := Aside0.mk hA28
                                clear hy28 hA28
                                have KL28 := Aside0.mk (show (x6_3 : Int).toNat ≤ x4_2.length from by omega)
                                replace q28 := eq_true q28
                                go_wp2_with (first | ((with_reducible refine gate_callee (f := 24) rfl ?_); refine goesL_ (some 46) rfl rfl Try.func24 (by kernel_rfl) rfl #[.slice A28 y227.length c28] rfl (by (try simp only [List.map_toArray, List.map_cons, List.map_nil]); first | done | rfl | (simp only [List.length_drop, List.length_take]; rfl)) ?_; (with_reducible refine (varint_Get.calls k3 _ _ y227 t231 t232 t233 _ ?side1 ?side2 A17.out).mono ?_); (case side1 => repeat (first | exact (by repeat (first | (with_reducible exact HR230.out) | (with_reducible refine Kd.C_alloc ?_ _) | (with_reducible refine Kd.C_drewN ?_ _) | (with_reducible refine Kd.C_drew ?_) | exact HR230.out)) | (with_reducible refine Kd.C_alloc ?_ _) | (with_reducible refine Kd.C_drewN ?_ _) | (with_reducible refine Kd.C_drew ?_))); (case side2 => exact HC230.out); rintro e w' ⟨rfl, ⟨nd, rfl⟩⟩; refine ⟨_, rfl, ?_⟩) | ((with_reducible refine gate_callee (f := 25) rfl ?_); refine goesL_ (some 51) rfl rfl Try.func25 (by kernel_rfl) rfl #[.int .i64 t233] rfl (by (try simp only [List.map_toArray, List.map_cons, List.map_nil]); first | done | rfl | (simp only [List.length_drop, List.length_take]; rfl)) ?_; (with_reducible refine (cooperagelaw1_num.calls t233 t234 _ A18.out).mono ?_); rintro e w' ⟨rfl, ⟨nd, rfl⟩⟩; refine ⟨_, rfl, ?_⟩; have p235 : 0 ≤ (x7_3 : Int) := of_decide_eq_true (by first | (with_reducible assumption) | assumption); have q235 : x7_3 < (l0.length : Int) := of_decide_eq_true (by first | (with_reducible assumption) | assumption); obtain ⟨ad235, e235, hx235_0⟩ := Kd.at_int HR0.out x7_3 p235 q235; cases e235; replace hx235_0 := (HB.out.cell (World.block_lt_of_cell? w _ hx235_0)).trans hx235_0; replace p235 := eq_true p235; replace q235 := eq_true q235))
                                go_ret
                                exact ⟨by first | rfl | (simp [errW_none, errW_some] <;> rfl) | (simp [*, errW_none, errW_some] <;> rfl), by repeat (first | (with_reducible first | exact HB.out | apply below_alloc | apply pw_below_drewN | apply below_drew1) | exact HB.out)⟩
                            · rw [if_neg c20] at H
                              exact absurd H (by simp)
                          · rw [if_neg c19] at H
                            have c19b0 : (t234 == 0) = false := beq_eq_false_iff_ne.mpr c19
                            have c19b1 : (t234 != 0) = true := bne_iff_ne.mpr c19
                            obtain rfl := Option.some.inj H
                            obtain ⟨Ao29, co29, eo29⟩ := Kd.R_slice HO_4.out
                            subst eo29
                            have q30 : (x6_3 : Int) ≤ ((x4_2.length : Int) : Int) := of_decide_eq_true (by first | (with_reducible assumption) | assumption)
                            obtain ⟨i030, hi030, _, hsz30, _⟩ := info_parts info5
                            have hroom30 : x4_2.length ≤ co29 := (Kd.R_reads' HO_4.out).2.1
                            have hC30 : Kd.C (Kd.int .u8) _ Ao29 x4_2.length x4_2 := (Kd.R_reads' HO_4.out).2.2
                            have q030 : (0 : Int) ≤ (x6_3 : Int) := of_decide_eq_true (by first | (with_reducible assumption) | assumption)
                            have hcut30 := cut_from (P := Try.prog) 22 5 .i64 Try.underlying22 hi030 1 hsz30 Ao29 x4_2.length co29 x6_3 q030 q30
                            have hr30 := Kd.C_drop (m := (x6_3 : Int).toNat) (c := co29) hC30 (by omega) hroom30
                            obtain ⟨A30, hA30⟩ : ∃ A1, A1 = (if co29 = (x6_3 : Int).toNat then Ao29 else (Ao29 : Option Addr).map (·.add ((x6_3 : Int).toNat * 1))) := ⟨_, rfl⟩
                            obtain ⟨c30, hc30⟩ : ∃ c1, c1 = co29 - (x6_3 : Int).toNat := ⟨_, rfl⟩
                            have hy30 : y227.length = x4_2.length - (x6_3 : Int).toNat := (by rw [Ny227.out, List.length_drop] <;> omega)
                            rw [show (x4_2).drop (x6_3 : Int).toNat = y227 from Ny227.out.symm] at hr30
                            replace hr30 : Kd.C (Kd.int .u8) _ A30 y227.length y227 := (by rw [hA30]; exact hr30)
                            rw [← hy30, ← hA30, ← hc30] at hcut30
                            have HR230 := Aside0.mk hr30
                            have HC230 := Aside0.mk (show y227.length ≤ c30 from by rw [hy30, hc30]; exact Nat.sub_le_sub_right hroom30 _)
                            clear hr30 hC30 hroom30 hi030 hsz30 hc30
                            have KY30 := Aside0.mk hy30
                            have KA30 := Aside0.mk hA30
                            clear hy30 hA30
                            have KL30 := Aside0.mk (show (x6_3 : Int).toNat ≤ x4_2.length from by omega)
                            replace q30 := eq_true q30
                            go_wp2_with (first | ((with_reducible refine gate_callee (f := 24) rfl ?_); refine goesL_ (some 46) rfl rfl Try.func24 (by kernel_rfl) rfl #[.slice A30 y227.length c30] rfl (by (try simp only [List.map_toArray, List.map_cons, List.map_nil]); first | done | rfl | (simp only [List.length_drop, List.length_take]; rfl)) ?_; (with_reducible refine (varint_Get.calls k3 _ _ y227 t231 t232 t233 _ ?side1 ?side2 A17.out).mono ?_); (case side1 => repeat (first | exact (by repeat (first | (with_reducible exact HR230.out) | (with_reducible refine Kd.C_alloc ?_ _) | (with_reducible refine Kd.C_drewN ?_ _) | (with_reducible refine Kd.C_drew ?_) | exact HR230.out)) | (with_reducible refine Kd.C_alloc ?_ _) | (with_reducible refine Kd.C_drewN ?_ _) | (with_reducible refine Kd.C_drew ?_))); (case side2 => exact HC230.out); rintro e w' ⟨rfl, ⟨nd, rfl⟩⟩; refine ⟨_, rfl, ?_⟩) | ((with_reducible refine gate_callee (f := 25) rfl ?_); refine goesL_ (some 51) rfl rfl Try.func25 (by kernel_rfl) rfl #[.int .i64 t233] rfl (by (try simp only [List.map_toArray, List.map_cons, List.map_nil]); first | done | rfl | (simp only [List.length_drop, List.length_take]; rfl)) ?_; (with_reducible refine (cooperagelaw1_num.calls t233 t234 _ A18.out).mono ?_); rintro e w' ⟨rfl, ⟨nd, rfl⟩⟩; refine ⟨_, rfl, ?_⟩))
                            go_ret
                            exact ⟨by first | rfl | (simp [errW_none, errW_some] <;> rfl) | (simp [*, errW_none, errW_some] <;> rfl), by repeat (first | (with_reducible first | exact HB.out | apply below_alloc | apply pw_below_drewN | apply below_drew1) | exact HB.out)⟩
                        · rw [if_neg c16] at H
                          exact absurd H (by simp)
                      · rw [if_neg c15] at H
                        exact absurd H (by simp)
                  · rw [if_neg c12] at H
                    have c12b0 : decide (x7_3 < (l0.length : Int)) = false := decide_eq_false c12
                    clear c12
                    obtain rfl := Option.some.inj H
                    obtain ⟨Ao31, co31, eo31⟩ := Kd.R_slice HO_4.out
                    subst eo31
                    go_wp2
                    go_ret
                    exact ⟨by first | rfl | (simp [errW_none, errW_some] <;> rfl) | (simp [*, errW_none, errW_some] <;> rfl), by repeat (first | (with_reducible first | exact HB.out | apply below_alloc | apply pw_below_drewN | apply below_drew1) | exact HB.out)⟩

/-- THE ONE PURE STATEMENT of cooperagelaw1_VarintRow: yours. -/
def cooperagelaw1_VarintRow.Pure : Prop := ∀ (l0 : List Int), l0.length ≤ maxLen → l0.length * 8 ≤ 140737488351232 → (∀ x ∈ l0, (Lit.int .u64 x).wf = true) → ∃ k, cooperagelaw1_VarintRow.f k l0 = some true
theorem cooperagelaw1_VarintRow.walk (P : cooperagelaw1_VarintRow.Pure) (a0 : Option Addr) (len0 cap0 : Nat) (z0 : List Int) (w : World) (w0 : (a0 = none ∧ len0 = 0 ∧ cap0 = 0 ∧ z0 = []) ∨ ∃ x, a0 = some x ∧ len0 ≤ cap0 ∧ cap0 ≤ maxLen ∧ z0.length = cap0 ∧ (∀ i, i < z0.length → w.cell? (x.add i) = some (.int .u64 (z0.getD i 0))) ∧ ∀ n ∈ z0, (Lit.int .u64 n).wf = true) (y0 : len0 * 8 ≤ 140737488351232) :
    Calls Try.prog 11 #[.slice a0 len0 cap0] w fun e w' => e = .returned (.bool true) ∧ Below w.heap.size w w' := by
  obtain ⟨l0, rfl, hr0, hm0, hw0, hc0⟩ := ReadsInt.ofRowC w0
  obtain ⟨k, h⟩ := P l0 hm0 y0 hw0
  refine (cooperagelaw1_VarintRow.calls k _ _ l0 true w (Kd.C_of_reads (d := (0 : Int)) (h1 := fun _ => rfl) hr0) hc0 h).mono ?_
  rintro e w' ⟨rfl, hd⟩
  exact ⟨rfl, hd⟩

end Go.Proofs.Ytdehemcahangmaa.P

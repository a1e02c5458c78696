-- printed by a program of this session (a changed copy of the kit's printer)
import Derived.Test.YtphnolgneojdhaaSx0
import Derived.Test.YtphnolgneojdhaaSx8
import Derived.Test.YtphnolgneojdhaaSx23
import Derived.Test.YtphnolgneojdhaaSx32
namespace Go.Proofs.Ytphnolgneojdhaa.S
open Go.RowKit Go.Proofs.YtphnolgneojdhaaW.PrintWords Go.Proofs.YtphnolgneojdhaaW.PrintLast Go.Proofs.YtphnolgneojdhaaW.PrintMore
attribute [local go_sem] max2_int min2_int max_two min_two max_three min_three max_four min_four   -- for this text's walks alone
set_option linter.unusedVariables false
set_option linter.unusedSimpArgs false

/-! ### cooperagelaw8_SegmentFrom: function 8 -/
mutual
def cooperagelaw8_SegmentFrom.j0 : Nat → List (S34) → Int → Int → Bool → Bool → Option (Bool)
  | 0, _, _, _, _, _ => none
  | k + 1, x0, x1, x2, x7, x33 => if x33 = true then (some x7) else (cooperagelaw8_SegmentFrom.l0 k x0 x1 x2 ([] : List (S34)) 0)
def cooperagelaw8_SegmentFrom.l0 : Nat → List (S34) → Int → Int → List (S34) → Int → Option (Bool)
  | 0, _, _, _, _, _ => none
  | k + 1, x0, x1, x2, x9, x10 => if x10 < (x0.length : Int) then (if 0 ≤ x10 then (if x9.length < 2513169434916 then (cooperagelaw8_SegmentFrom.l0 k x0 x1 x2 (x9 ++ [(⟨wrap64 (3 * x10), (rd_T34 x0 x10).f1, (rd_T34 x0 x10).f2, (rd_T34 x0 x10).f3, (rd_T34 x0 x10).f4⟩ : S34)]) (wrap64 (x10 + 1))) else (none)) else (none)) else (cooperagelaw8_SegmentFrom.l1 k x1 x2 x9 ([] : List (S34)) x1 0)
def cooperagelaw8_SegmentFrom.j3 : Nat → Int → List (S34) → List (S34) → Option (Bool)
  | 0, _, _, _ => none
  | k + 1, x1, x9, x12 => cooperagelaw8_SegmentFrom.l2 k x1 x9 x12 ([] : List (S34)) 0
def cooperagelaw8_SegmentFrom.l2 : Nat → Int → List (S34) → List (S34) → List (S34) → Int → Option (Bool)
  | 0, _, _, _, _, _ => none
  | k + 1, x1, x9, x12, x16, x17 => if x17 < (x9.length : Int) then (if 0 ≤ x17 then (if ((rd_T34 x9 x17).f0) ≥ x1 then (if x16.length < 2513169434916 then (cooperagelaw8_SegmentFrom.l2 k x1 x9 x12 (x16 ++ [(⟨(rd_T34 x9 x17).f0, (rd_T34 x9 x17).f1, (rd_T34 x9 x17).f2, (rd_T34 x9 x17).f3, (rd_T34 x9 x17).f4⟩ : S34)]) (wrap64 (x17 + 1))) else (none)) else (cooperagelaw8_SegmentFrom.l2 k x1 x9 x12 x16 (wrap64 (x17 + 1)))) else (none)) else ((cooperageref1_SameRecords.f k x12 x16).bind fun t595 => (some t595))
def cooperagelaw8_SegmentFrom.l1 : Nat → Int → Int → List (S34) → List (S34) → Int → Int → Option (Bool)
  | 0, _, _, _, _, _, _ => none
  | k + 1, x1, x2, x9, x12, x13, x14 => if x14 ≤ (x9.length : Int) then ((segment_From.f k x9 x13 x2).bind fun t583 => (if (t583.length : Int) > x2 then (some false) else (if (t583.length : Int) = 0 then (cooperagelaw8_SegmentFrom.j3 k x1 x9 x12) else (if x12.length + t583.length < 2513169434916 then (if 0 ≤ (wrap64 ((t583.length : Int) - 1)) then (if (wrap64 ((t583.length : Int) - 1)) < (t583.length : Int) then (cooperagelaw8_SegmentFrom.l1 k x1 x2 x9 (x12 ++ t583) (wrap64 (((rd_T34 t583 (wrap64 ((t583.length : Int) - 1))).f0) + 1)) (wrap64 (x14 + 1))) else (none)) else (none)) else (none))))) else (cooperagelaw8_SegmentFrom.j3 k x1 x9 x12)
end
def cooperagelaw8_SegmentFrom.f (k : Nat) (l0 : List (S34)) (a1 : Int) (a2 : Int) : Option (Bool) := (cooperagelaw8_alive.f k).bind fun t576 => ((cooperagelaw8_Big.f k l0).bind fun t577 => (if t576 = true then (if t577 = true then (cooperagelaw8_SegmentFrom.j0 k l0 a1 a2 t576 true) else (if a2 < 1 then (cooperagelaw8_SegmentFrom.j0 k l0 a1 a2 t576 true) else (cooperagelaw8_SegmentFrom.j0 k l0 a1 a2 t576 (decide (a2 > 20))))) else (cooperagelaw8_SegmentFrom.j0 k l0 a1 a2 t576 true)))
theorem cooperagelaw8_SegmentFrom.mono_l : ∀ k, (∀ y0 y1 y2 y3 y4, LeO (cooperagelaw8_SegmentFrom.j0 k y0 y1 y2 y3 y4) (cooperagelaw8_SegmentFrom.j0 (k + 1) y0 y1 y2 y3 y4)) ∧ (∀ y0 y1 y2 y3 y4, LeO (cooperagelaw8_SegmentFrom.l0 k y0 y1 y2 y3 y4) (cooperagelaw8_SegmentFrom.l0 (k + 1) y0 y1 y2 y3 y4)) ∧ (∀ y0 y1 y2, LeO (cooperagelaw8_SegmentFrom.j3 k y0 y1 y2) (cooperagelaw8_SegmentFrom.j3 (k + 1) y0 y1 y2)) ∧ (∀ y0 y1 y2 y3 y4, LeO (cooperagelaw8_SegmentFrom.l2 k y0 y1 y2 y3 y4) (cooperagelaw8_SegmentFrom.l2 (k + 1) y0 y1 y2 y3 y4)) ∧ (∀ y0 y1 y2 y3 y4 y5, LeO (cooperagelaw8_SegmentFrom.l1 k y0 y1 y2 y3 y4 y5) (cooperagelaw8_SegmentFrom.l1 (k + 1) y0 y1 y2 y3 y4 y5))
  | 0 => ⟨fun _ _ _ _ _ r h => by simp [cooperagelaw8_SegmentFrom.j0] at h, fun _ _ _ _ _ r h => by simp [cooperagelaw8_SegmentFrom.l0] at h, fun _ _ _ r h => by simp [cooperagelaw8_SegmentFrom.j3] at h, fun _ _ _ _ _ r h => by simp [cooperagelaw8_SegmentFrom.l2] at h, fun _ _ _ _ _ _ r h => by simp [cooperagelaw8_SegmentFrom.l1] at h⟩
  | k + 1 => by
    obtain ⟨ih0, ih1, ih2, ih3, ih4⟩ := cooperagelaw8_SegmentFrom.mono_l k
    refine ⟨?_, ?_, ?_, ?_, ?_⟩
    · intro y0 y1 y2 y3 y4
      unfold cooperagelaw8_SegmentFrom.j0
      repeat' first
      | (with_reducible exact ih0 _ _ _ _ _)
      | (with_reducible exact ih1 _ _ _ _ _)
      | (with_reducible exact ih2 _ _ _)
      | (with_reducible exact ih3 _ _ _ _ _)
      | (with_reducible exact ih4 _ _ _ _ _ _)
      | (with_reducible exact cooperagelaw8_Big.mono _ _)
      | (with_reducible exact cooperagelaw8_alive.mono _)
      | (with_reducible exact cooperageref1_SameRecords.mono _ _ _)
      | (with_reducible exact segment_From.mono _ _ _ _)
      | (with_reducible exact LeO.refl _)
      | (with_reducible exact LeO.none _)
      | (with_reducible refine LeO.ite ?_ ?_)
      | (with_reducible refine LeO.bind ?_ (fun _ => ?_))
      | exact ih0 _ _ _ _ _
      | exact ih1 _ _ _ _ _
      | exact ih2 _ _ _
      | exact ih3 _ _ _ _ _
      | exact ih4 _ _ _ _ _ _
      | exact cooperagelaw8_Big.mono _ _
      | exact cooperagelaw8_alive.mono _
      | exact cooperageref1_SameRecords.mono _ _ _
      | exact segment_From.mono _ _ _ _
      | exact LeO.none _
      | refine LeO.ite ?_ ?_
      | refine LeO.bind ?_ (fun _ => ?_)
    · intro y0 y1 y2 y3 y4
      unfold cooperagelaw8_SegmentFrom.l0
      repeat' first
      | (with_reducible exact ih0 _ _ _ _ _)
      | (with_reducible exact ih1 _ _ _ _ _)
      | (with_reducible exact ih2 _ _ _)
      | (with_reducible exact ih3 _ _ _ _ _)
      | (with_reducible exact ih4 _ _ _ _ _ _)
      | (with_reducible exact cooperagelaw8_Big.mono _ _)
      | (with_reducible exact cooperagelaw8_alive.mono _)
      | (with_reducible exact cooperageref1_SameRecords.mono _ _ _)
      | (with_reducible exact segment_From.mono _ _ _ _)
      | (with_reducible exact LeO.refl _)
      | (with_reducible exact LeO.none _)
      | (with_reducible refine LeO.ite ?_ ?_)
      | (with_reducible refine LeO.bind ?_ (fun _ => ?_))
      | exact ih0 _ _ _ _ _
      | exact ih1 _ _ _ _ _
      | exact ih2 _ _ _
      | exact ih3 _ _ _ _ _
      | exact ih4 _ _ _ _ _ _
      | exact cooperagelaw8_Big.mono _ _
      | exact cooperagelaw8_alive.mono _
      | exact cooperageref1_SameRecords.mono _ _ _
      | exact segment_From.mono _ _ _ _
      | exact LeO.none _
      | refine LeO.ite ?_ ?_
      | refine LeO.bind ?_ (fun _ => ?_)
    · intro y0 y1 y2
      unfold cooperagelaw8_SegmentFrom.j3
      repeat' first
      | (with_reducible exact ih0 _ _ _ _ _)
      | (with_reducible exact ih1 _ _ _ _ _)
      | (with_reducible exact ih2 _ _ _)
      | (with_reducible exact ih3 _ _ _ _ _)
      | (with_reducible exact ih4 _ _ _ _ _ _)
      | (with_reducible exact cooperagelaw8_Big.mono _ _)
      | (with_reducible exact cooperagelaw8_alive.mono _)
      | (with_reducible exact cooperageref1_SameRecords.mono _ _ _)
      | (with_reducible exact segment_From.mono _ _ _ _)
      | (with_reducible exact LeO.refl _)
      | (with_reducible exact LeO.none _)
      | (with_reducible refine LeO.ite ?_ ?_)
      | (with_reducible refine LeO.bind ?_ (fun _ => ?_))
      | exact ih0 _ _ _ _ _
      | exact ih1 _ _ _ _ _
      | exact ih2 _ _ _
      | exact ih3 _ _ _ _ _
      | exact ih4 _ _ _ _ _ _
      | exact cooperagelaw8_Big.mono _ _
      | exact cooperagelaw8_alive.mono _
      | exact cooperageref1_SameRecords.mono _ _ _
      | exact segment_From.mono _ _ _ _
      | exact LeO.none _
      | refine LeO.ite ?_ ?_
      | refine LeO.bind ?_ (fun _ => ?_)
    · intro y0 y1 y2 y3 y4
      unfold cooperagelaw8_SegmentFrom.l2
      repeat' first
      | (with_reducible exact ih0 _ _ _ _ _)
      | (with_reducible exact ih1 _ _ _ _ _)
      | (with_reducible exact ih2 _ _ _)
      | (with_reducible exact ih3 _ _ _ _ _)
      | (with_reducible exact ih4 _ _ _ _ _ _)
      | (with_reducible exact cooperagelaw8_Big.mono _ _)
      | (with_reducible exact cooperagelaw8_alive.mono _)
      | (with_reducible exact cooperageref1_SameRecords.mono _ _ _)
      | (with_reducible exact segment_From.mono _ _ _ _)
      | (with_reducible exact LeO.refl _)
      | (with_reducible exact LeO.none _)
      | (with_reducible refine LeO.ite ?_ ?_)
      | (with_reducible refine LeO.bind ?_ (fun _ => ?_))
      | exact ih0 _ _ _ _ _
      | exact ih1 _ _ _ _ _
      | exact ih2 _ _ _
      | exact ih3 _ _ _ _ _
      | exact ih4 _ _ _ _ _ _
      | exact cooperagelaw8_Big.mono _ _
      | exact cooperagelaw8_alive.mono _
      | exact cooperageref1_SameRecords.mono _ _ _
      | exact segment_From.mono _ _ _ _
      | exact LeO.none _
      | refine LeO.ite ?_ ?_
      | refine LeO.bind ?_ (fun _ => ?_)
    · intro y0 y1 y2 y3 y4 y5
      unfold cooperagelaw8_SegmentFrom.l1
      repeat' first
      | (with_reducible exact ih0 _ _ _ _ _)
      | (with_reducible exact ih1 _ _ _ _ _)
      | (with_reducible exact ih2 _ _ _)
      | (with_reducible exact ih3 _ _ _ _ _)
      | (with_reducible exact ih4 _ _ _ _ _ _)
      | (with_reducible exact cooperagelaw8_Big.mono _ _)
      | (with_reducible exact cooperagelaw8_alive.mono _)
      | (with_reducible exact cooperageref1_SameRecords.mono _ _ _)
      | (with_reducible exact segment_From.mono _ _ _ _)
      | (with_reducible exact LeO.refl _)
      | (with_reducible exact LeO.none _)
      | (with_reducible refine LeO.ite ?_ ?_)
      | (with_reducible refine LeO.bind ?_ (fun _ => ?_))
      | exact ih0 _ _ _ _ _
      | exact ih1 _ _ _ _ _
      | exact ih2 _ _ _
      | exact ih3 _ _ _ _ _
      | exact ih4 _ _ _ _ _ _
      | exact cooperagelaw8_Big.mono _ _
      | exact cooperagelaw8_alive.mono _
      | exact cooperageref1_SameRecords.mono _ _ _
      | exact segment_From.mono _ _ _ _
      | exact LeO.none _
      | refine LeO.ite ?_ ?_
      | refine LeO.bind ?_ (fun _ => ?_)
theorem cooperagelaw8_SegmentFrom.mono : ∀ a0 a1 a2 k, LeO (cooperagelaw8_SegmentFrom.f k a0 a1 a2) (cooperagelaw8_SegmentFrom.f (k + 1) a0 a1 a2) := by
  intro a0 a1 a2 k
  obtain ⟨ih0, ih1, ih2, ih3, ih4⟩ := cooperagelaw8_SegmentFrom.mono_l k
  unfold cooperagelaw8_SegmentFrom.f
  repeat' first
      | (with_reducible exact ih0 _ _ _ _ _)
      | (with_reducible exact ih1 _ _ _ _ _)
      | (with_reducible exact ih2 _ _ _)
      | (with_reducible exact ih3 _ _ _ _ _)
      | (with_reducible exact ih4 _ _ _ _ _ _)
      | (with_reducible exact cooperagelaw8_Big.mono _ _)
      | (with_reducible exact cooperagelaw8_alive.mono _)
      | (with_reducible exact cooperageref1_SameRecords.mono _ _ _)
      | (with_reducible exact segment_From.mono _ _ _ _)
      | (with_reducible exact LeO.refl _)
      | (with_reducible exact LeO.none _)
      | (with_reducible refine LeO.ite ?_ ?_)
      | (with_reducible refine LeO.bind ?_ (fun _ => ?_))
      | exact ih0 _ _ _ _ _
      | exact ih1 _ _ _ _ _
      | exact ih2 _ _ _
      | exact ih3 _ _ _ _ _
      | exact ih4 _ _ _ _ _ _
      | exact cooperagelaw8_Big.mono _ _
      | exact cooperagelaw8_alive.mono _
      | exact cooperageref1_SameRecords.mono _ _ _
      | exact segment_From.mono _ _ _ _
      | exact LeO.none _
      | refine LeO.ite ?_ ?_
      | refine LeO.bind ?_ (fun _ => ?_)
set_option maxHeartbeats 8000000 in
set_option maxRecDepth 100000 in
theorem cooperagelaw8_SegmentFrom.calls (k : Nat) (A0 : Option Addr) (c0 : Nat) (l0 : List (S34)) (a1 : Int) (a2 : Int) (r : Bool) (w : World) (hr0 : Kd.C k34 w A0 l0.length l0) (hc0 : l0.length ≤ c0) (h : cooperagelaw8_SegmentFrom.f k l0 a1 a2 = some r) :
    Calls Try.prog 8 #[.slice A0 l0.length c0, .int .i64 a1, .int .i64 a2] w fun e w' => e = .returned (.bool r) ∧ Below w.heap.size w w' := by
  have hu34 := Try.underlying34
  have HR0 := Aside0.mk hr0
  have HC0 := Aside0.mk hc0
  clear hr0 hc0
  have HB := Aside0.mk (Below.refl w.heap.size w)
  have H : ((cooperagelaw8_alive.f k).bind fun t576 => ((cooperagelaw8_Big.f k l0).bind fun t577 => (if t576 = true then (if t577 = true then (cooperagelaw8_SegmentFrom.j0 k l0 a1 a2 t576 true) else (if a2 < 1 then (cooperagelaw8_SegmentFrom.j0 k l0 a1 a2 t576 true) else (cooperagelaw8_SegmentFrom.j0 k l0 a1 a2 t576 (decide (a2 > 20))))) else (cooperagelaw8_SegmentFrom.j0 k l0 a1 a2 t576 true)))) = some r := h
  clear h
  replace H := Option.bind_eq_some_iff.mp H
  obtain ⟨t576, A40, H⟩ := H
  replace H : ((cooperagelaw8_Big.f k l0).bind fun t577 => (if t576 = true then (if t577 = true then (cooperagelaw8_SegmentFrom.j0 k l0 a1 a2 t576 true) else (if a2 < 1 then (cooperagelaw8_SegmentFrom.j0 k l0 a1 a2 t576 true) else (cooperagelaw8_SegmentFrom.j0 k l0 a1 a2 t576 (decide (a2 > 20))))) else (cooperagelaw8_SegmentFrom.j0 k l0 a1 a2 t576 true))) = some r := H
  have A4 := Aside0.mk A40
  clear A40
  replace H := Option.bind_eq_some_iff.mp H
  obtain ⟨t577, A50, H⟩ := H
  replace H : (if t576 = true then (if t577 = true then (cooperagelaw8_SegmentFrom.j0 k l0 a1 a2 t576 true) else (if a2 < 1 then (cooperagelaw8_SegmentFrom.j0 k l0 a1 a2 t576 true) else (cooperagelaw8_SegmentFrom.j0 k l0 a1 a2 t576 (decide (a2 > 20))))) else (cooperagelaw8_SegmentFrom.j0 k l0 a1 a2 t576 true)) = some r := H
  have A5 := Aside0.mk A50
  clear A50
  have HC6 := Aside0.mk H
  clear H
  go_enter Try.func8, Try.ntmps8
  go_upto_region 3 with (first | ((with_reducible refine gate_callee (f := 17) rfl ?_); refine goesL_ (some 18) rfl rfl Try.func17 (by kernel_rfl) rfl #[] rfl (by (try simp only [List.map_toArray, List.map_cons, List.map_nil]); first | done | rfl | (simp only [List.length_drop, List.length_take]; rfl)) ?_; (with_reducible refine (cooperagelaw8_alive.calls k  t576 _ A4.out).mono ?_); rintro e w7 ⟨rfl, hb⟩; refine ⟨_, rfl, ?_⟩; have n0_ := Aside0.mk (below_step (by repeat (first | (with_reducible first | exact HB.out | apply below_alloc | apply pw_below_drewN | apply below_drew1) | exact HB.out)) hb); clear HB; have HB := n0_; clear n0_; (try clear hb); (try clear hb2); (try clear hk); (try clear hi)) | ((with_reducible refine gate_callee (f := 12) rfl ?_); refine goesL_ (some 20) rfl rfl Try.func12 (by kernel_rfl) rfl #[.slice A0 l0.length c0] rfl (by (try simp only [List.map_toArray, List.map_cons, List.map_nil]); first | done | rfl | (simp only [List.length_drop, List.length_take]; rfl)) ?_; (with_reducible refine (cooperagelaw8_Big.calls k _ _ l0 t577 _ ?side1 ?side2 A5.out).mono ?_); (case side1 => repeat (first | exact (Kd.C_below HR0.out HB.out) | (with_reducible refine Kd.C_alloc ?_ _) | (with_reducible refine Kd.C_drewN ?_ _) | (with_reducible refine Kd.C_drew ?_))); (case side2 => exact HC0.out); rintro e w' ⟨rfl, ⟨nd, rfl⟩⟩; refine ⟨_, rfl, ?_⟩))
  (try simp only [Act.put, List.setIfInBounds_toArray, List.set_cons_zero, List.set_cons_succ])
  go_cut [33] (fun v33 wc => ∃ (kq : Nat) (x33_5 : Bool), v33 = .bool x33_5 ∧ Aside0 (cooperagelaw8_SegmentFrom.j0 kq l0 a1 a2 t576 x33_5 = some r) ∧ Aside0 (kq ≤ k) ∧ Aside0 (Below w.heap.size w wc))
  case first =>
    have H := HC6.out
    clear HC6
    by_cases c8 : t576 = true
    · subst c8
      have H1 : (if t577 = true then (cooperagelaw8_SegmentFrom.j0 k l0 a1 a2 true true) else (if a2 < 1 then (cooperagelaw8_SegmentFrom.j0 k l0 a1 a2 true true) else (cooperagelaw8_SegmentFrom.j0 k l0 a1 a2 true (decide (a2 > 20))))) = some r := by rw [if_pos rfl] at H; exact H
      clear H
      have H := H1
      clear H1
      by_cases c9 : t577 = true
      · subst c9
        have H1 : (cooperagelaw8_SegmentFrom.j0 k l0 a1 a2 true true) = some r := by rw [if_pos rfl] at H; exact H
        clear H
        have H := H1
        clear H1
        have H' := Aside0.mk H
        clear H
        go_wp2
        go_meet
        case rel => exact ⟨_, (true), (by first | rfl | (simp; done) | (simp [*]; done)), H', ⟨by first | omega | exact Nat.le_refl _⟩, ⟨by repeat (first | (with_reducible first | exact HB.out | apply below_alloc | apply pw_below_drewN | apply below_drew1) | exact HB.out)⟩⟩
      · replace c9 := Bool.eq_false_iff.mpr c9
        subst c9
        have H1 : (if a2 < 1 then (cooperagelaw8_SegmentFrom.j0 k l0 a1 a2 true true) else (cooperagelaw8_SegmentFrom.j0 k l0 a1 a2 true (decide (a2 > 20)))) = some r := by rw [if_neg (show ¬ (false = true) by decide)] at H; exact H
        clear H
        have H := H1
        clear H1
        by_cases c10 : a2 < 1
        · rw [if_pos c10] at H
          have c10b0 : decide (a2 < 1) = true := decide_eq_true c10
          clear c10
          (first | rw [c10b0] | (simp only [i64_w, i32_w]; rw [c10b0]) | skip)
          have H' := Aside0.mk H
          clear H
          go_wp2
          go_meet
          case rel => exact ⟨_, (true), (by first | rfl | (simp; done) | (simp [*]; done)), H', ⟨by first | omega | exact Nat.le_refl _⟩, ⟨by repeat (first | (with_reducible first | exact HB.out | apply below_alloc | apply pw_below_drewN | apply below_drew1) | exact HB.out)⟩⟩
        · rw [if_neg c10] at H
          have c10b0 : decide (a2 < 1) = false := decide_eq_false c10
          clear c10
          (first | rw [c10b0] | (simp only [i64_w, i32_w]; rw [c10b0]) | skip)
          have H' := Aside0.mk H
          clear H
          go_wp2
          go_meet
          case rel => exact ⟨_, (decide (a2 > 20)), (by first | rfl | (simp; done) | (simp [*]; done)), H', ⟨by first | omega | exact Nat.le_refl _⟩, ⟨by repeat (first | (with_reducible first | exact HB.out | apply below_alloc | apply pw_below_drewN | apply below_drew1) | exact HB.out)⟩⟩
    · replace c8 := Bool.eq_false_iff.mpr c8
      subst c8
      have H1 : (cooperagelaw8_SegmentFrom.j0 k l0 a1 a2 false true) = some r := by rw [if_neg (show ¬ (false = true) by decide)] at H; exact H
      clear H
      have H := H1
      clear H1
      have H' := Aside0.mk H
      clear H
      go_wp2
      go_meet
      case rel => exact ⟨_, (true), (by first | rfl | (simp; done) | (simp [*]; done)), H', ⟨by first | omega | exact Nat.le_refl _⟩, ⟨by repeat (first | (with_reducible first | exact HB.out | apply below_alloc | apply pw_below_drewN | apply below_drew1) | exact HB.out)⟩⟩
  case rest =>
    clear HC6
    try clear c1
    try clear p2
    try clear c8
    try clear c9
    try clear c10
    try clear c10b0
    obtain ⟨kq, x33_5, rfl, HA, HJ5, HB⟩ := hcut
    cases kq with
    | zero => exact absurd HA.out (by simp [cooperagelaw8_SegmentFrom.j0])
    | succ kj5 =>
      have H := HA.out
      clear HA
      simp only [cooperagelaw8_SegmentFrom.j0] at H
      by_cases c11 : x33_5 = true
      · subst c11
        have H1 : (some t576) = some r := by rw [if_pos rfl] at H; exact H
        clear H
        have H := H1
        clear H1
        obtain rfl := Option.some.inj H
        go_wp2
        go_ret
        exact ⟨by first | rfl | (simp [errW_none, errW_some] <;> rfl) | (simp [*, errW_none, errW_some] <;> rfl) | (simp [errW_none, errW_some]; generalize ByteArray.toList _ = l_; cases l_ <;> rfl), by repeat (first | (with_reducible first | exact HB.out | apply below_alloc | apply pw_below_drewN | apply below_drew1) | exact HB.out)⟩
      · replace c11 := Bool.eq_false_iff.mpr c11
        subst c11
        have H1 : (cooperagelaw8_SegmentFrom.l0 kj5 l0 a1 a2 ([] : List (S34)) 0) = some r := by rw [if_neg (show ¬ (false = true) by decide)] at H; exact H
        clear H
        have H := H1
        clear H1
        have H' := Aside0.mk H
        clear H
        go_wp2
        go_loopg [9, 10] kj5 (fun kq v9 v10 w' => ∃ (x9_2 : List (S34)) (x10_2 : Int), v10 = .int .i64 x10_2 ∧ Aside0 (cooperagelaw8_SegmentFrom.l0 kq l0 a1 a2 x9_2 x10_2 = some r) ∧ Aside0 (kq ≤ kj5) ∧ Aside0 (Kd.R k34 34 w' w.heap.size (fun _ => True) v9 x9_2) ∧ Aside0 (Below w.heap.size w w'))
        case atStart => exact ⟨(([] : List (S34))), (0), (by first | rfl | (simp; done) | (simp [*]; done)), H', ⟨Nat.le_refl _⟩, ⟨by first | exact Kd.R_nil _ _ _ _ _ | exact Kd.N_nil _ _ _ _ _ | exact Kd.V_nil _ _ _ _ _ | exact Kd.Q_nil _ _ _ _ _ | exact Kd.S_nil _ _ _ _ _⟩, ⟨by repeat (first | (with_reducible first | exact HB.out | apply below_alloc | apply pw_below_drewN | apply below_drew1) | exact HB.out)⟩⟩
        case round =>
          clear H'
          try clear c1
          try clear p2
          try clear c8
          try clear c9
          try clear c10
          try clear c10b0
          try clear c11
          try clear p2
          obtain ⟨x9_2, x10_2, rfl, HA, HK2, HO_9, HB⟩ := hrel
          cases gk with
          | zero => exact absurd HA.out (by simp [cooperagelaw8_SegmentFrom.l0])
          | succ k2 =>
            have H := HA.out
            clear HA
            simp only [cooperagelaw8_SegmentFrom.l0] at H
            by_cases c12 : x10_2 < (l0.length : Int)
            · rw [if_pos c12] at H
              have c12b0 : decide (x10_2 < (l0.length : Int)) = true := decide_eq_true c12
              clear c12
              by_cases c13 : 0 ≤ x10_2
              · rw [if_pos c13] at H
                have c13b0 : decide (0 ≤ x10_2) = true := decide_eq_true c13
                clear c13
                by_cases c14 : x9_2.length < 2513169434916
                · rw [if_pos c14] at H
                  have LMc14 := Aside0.mk c14
                  clear c14
                  obtain ⟨y580, hy580⟩ : ∃ y_ : List (S34), y_ = (x9_2 ++ [(⟨wrap64 (3 * x10_2), (rd_T34 l0 x10_2).f1, (rd_T34 l0 x10_2).f2, (rd_T34 l0 x10_2).f3, (rd_T34 l0 x10_2).f4⟩ : S34)]) := ⟨_, rfl⟩
                  replace H : (cooperagelaw8_SegmentFrom.l0 k2 l0 a1 a2 y580 (wrap64 (x10_2 + 1))) = some r := by first | (rw [hy580]; with_reducible exact H) | (have H2_ := (Option.bind_some _ _).symm.trans H; rw [hy580]; with_reducible exact H2_) | (have H2_ := (Option.bind_some _ _).symm.trans H; with_reducible exact H2_) | with_reducible exact H | (rw [hy580]; exact H) | exact H
                  have Ny580 := Aside0.mk hy580
                  clear hy580
                  have H' := Aside0.mk H
                  clear H
                  have p578 : 0 ≤ (x10_2 : Int) := of_decide_eq_true (by first | (with_reducible assumption) | assumption)
                  have q578 : x10_2 < (l0.length : Int) := of_decide_eq_true (by first | (with_reducible assumption) | assumption)
                  obtain ⟨ad578, e578, hx578_0, hx578_1, hx578_2, hx578_3, hx578_4⟩ := at_T34 HR0.out x10_2 p578 q578
                  cases e578
                  replace hx578_0 := (HB.out.cell (World.block_lt_of_cell? w _ hx578_0)).trans hx578_0
                  replace hx578_1 := (HB.out.cell (World.block_lt_of_cell? w _ hx578_1)).trans hx578_1
                  replace hx578_2 := (HB.out.cell (World.block_lt_of_cell? w _ hx578_2)).trans hx578_2
                  replace hx578_3 := (HB.out.cell (World.block_lt_of_cell? w _ hx578_3)).trans hx578_3
                  replace hx578_4 := (HB.out.cell (World.block_lt_of_cell? w _ hx578_4)).trans hx578_4
                  replace p578 := eq_true p578
                  replace q578 := eq_true q578
                  go_wp2_with (first | ((with_reducible refine gate_dst (N := 11) rfl ?_); refine box_event ?hg (N := 11) ?hd (cs := #[.int .i64 0, .int .i64 0, .string (⟨#[]⟩ : ByteArray), .string (⟨#[]⟩ : ByteArray), .bool false]) (t := 34) ?hr ?_; (case hd => rfl); (case hg => rfl); (case hr => first | (go_simp; done) | (go_simp; rfl)); intro gb579 hg w15 hbox hb; have n0_ := Aside0.mk (Kd.R_below (Kd.R_elderB (by (with_reducible repeat (first | apply Kd.R_alloc | apply Kd.R_drewN | apply Kd.R_drew)); exact HO_9.out) gb579 (Nat.le_of_eq hg.symm)) hb); have n1_ := Aside0.mk (below_step (by repeat (first | (with_reducible first | exact HB.out | apply below_alloc | apply pw_below_drewN | apply below_drew1) | exact HB.out)) hb); have n2_ := Aside0.mk (hbox); have n3_ := Aside0.mk ((by rw [hg]; exact (below_size (by repeat (first | (with_reducible first | exact HB.out | apply below_alloc | apply pw_below_drewN | apply below_drew1) | exact HB.out))) : w.heap.size ≤ gb579)); have n4_ := Aside0.mk ((by rw [hg]; exact (below_size (by repeat (first | (with_reducible first | exact HB.out | apply below_alloc | apply pw_below_drewN | apply below_drew1) | exact HB.out))) : w.heap.size ≤ gb579)); clear HO_9; clear HB; have HO_9 := n0_; have HB := n1_; have BK579 := n2_; have GW579 := n3_; have GE579 := n4_; clear n0_ n1_ n2_ n3_ n4_; clear hb hbox hg; have hcz16_0 : w15.cell? ⟨gb579, 0, none⟩ = some (.int .i64 0) := (blk_cell BK579.out 0).trans rfl; have hcz16_1 : w15.cell? ⟨gb579, 1, none⟩ = some (.int .i64 0) := (blk_cell BK579.out 1).trans rfl; have hcz16_2 : w15.cell? ⟨gb579, 2, none⟩ = some (.string (⟨#[]⟩ : ByteArray)) := (blk_cell BK579.out 2).trans rfl; have hcz16_3 : w15.cell? ⟨gb579, 3, none⟩ = some (.string (⟨#[]⟩ : ByteArray)) := (blk_cell BK579.out 3).trans rfl; have hcz16_4 : w15.cell? ⟨gb579, 4, none⟩ = some (.bool false) := (blk_cell BK579.out 4).trans rfl; have hfz16_0 := blk_frozen BK579.out 0; have hfz16_1 := blk_frozen BK579.out 1; have hfz16_2 := blk_frozen BK579.out 2; have hfz16_3 := blk_frozen BK579.out 3; have hfz16_4 := blk_frozen BK579.out 4) | ((with_reducible refine gate_builtin (b := .append) (xs := #[(.tmp 48), .tmp 50]) rfl ?_); at_builtin; refine Kd.R_append k34 (w0 := w) w.heap.size rfl (.tmp 48) (.tmp 50) 22 34 (.agg #[(.int .i64 0), (.int .i64 0), (.string ⟨#[]⟩), (.string ⟨#[]⟩), (.bool false)]) 56 rfl Try.underlying22 info34 rfl (by decide) (by omega) u9 x9_2 (⟨wrap64 (3 * x10_2), (rd_T34 l0 x10_2).f1, (rd_T34 l0 x10_2).f2, (rd_T34 l0 x10_2).f3, (rd_T34 l0 x10_2).f4⟩ : S34) [.int .i64 (wrap64 (3 * x10_2)), .int .i64 ((rd_T34 l0 x10_2).f1), .string ((rd_T34 l0 x10_2).f2), .string ((rd_T34 l0 x10_2).f3), .bool ((rd_T34 l0 x10_2).f4)] (fun k_ => k_ ≠ gb579) (fun _ => False) rfl (by first | (go_simp; done) | (go_simp; rfl)) ?aP (fun _ hk => hk.elim) ?aF ?aO ?aB ?aS ?aL ?_; (case aP => exact k34_mkM _ _ _ (⟨wrap64 (3 * x10_2), (rd_T34 l0 x10_2).f1, (rd_T34 l0 x10_2).f2, (rd_T34 l0 x10_2).f3, (rd_T34 l0 x10_2).f4⟩ : S34)); (case aB => exact (by repeat (first | (with_reducible first | exact HB.out | apply below_alloc | apply pw_below_drewN | apply below_drew1 | refine below_set ?_ GE579.out) | exact HB.out))); (case aF => exact (fun k_ hk => Kd.freshB (g := gb579) (o := .cells #[.int .i64 (wrap64 (3 * x10_2)), .int .i64 ((rd_T34 l0 x10_2).f1), .string ((rd_T34 l0 x10_2).f2), .string ((rd_T34 l0 x10_2).f3), .bool ((rd_T34 l0 x10_2).f4)] 34 (0, 0)) (by (with_reducible repeat (first | refine blk_drewN ?_ _ | refine blk_drew ?_ | refine blk_alloc ?_ _)); refine blk_put (cs := #[.int .i64 ((rd_T34 l0 x10_2).f0), .int .i64 ((rd_T34 l0 x10_2).f1), .string ((rd_T34 l0 x10_2).f2), .string ((rd_T34 l0 x10_2).f3), .bool ((rd_T34 l0 x10_2).f4)]) ?_ 0 _ rfl; (with_reducible repeat (first | refine blk_drewN ?_ _ | refine blk_drew ?_ | refine blk_alloc ?_ _)); refine blk_put (cs := #[.int .i64 ((rd_T34 l0 x10_2).f0), .int .i64 ((rd_T34 l0 x10_2).f1), .string ((rd_T34 l0 x10_2).f2), .string ((rd_T34 l0 x10_2).f3), .bool false]) ?_ 4 _ rfl; (with_reducible repeat (first | refine blk_drewN ?_ _ | refine blk_drew ?_ | refine blk_alloc ?_ _)); refine blk_put (cs := #[.int .i64 ((rd_T34 l0 x10_2).f0), .int .i64 ((rd_T34 l0 x10_2).f1), .string ((rd_T34 l0 x10_2).f2), .string (⟨#[]⟩ : ByteArray), .bool false]) ?_ 3 _ rfl; (with_reducible repeat (first | refine blk_drewN ?_ _ | refine blk_drew ?_ | refine blk_alloc ?_ _)); refine blk_put (cs := #[.int .i64 ((rd_T34 l0 x10_2).f0), .int .i64 ((rd_T34 l0 x10_2).f1), .string (⟨#[]⟩ : ByteArray), .string (⟨#[]⟩ : ByteArray), .bool false]) ?_ 2 _ rfl; (with_reducible repeat (first | refine blk_drewN ?_ _ | refine blk_drew ?_ | refine blk_alloc ?_ _)); refine blk_put (cs := #[.int .i64 ((rd_T34 l0 x10_2).f0), .int .i64 0, .string (⟨#[]⟩ : ByteArray), .string (⟨#[]⟩ : ByteArray), .bool false]) ?_ 1 _ rfl; (with_reducible repeat (first | refine blk_drewN ?_ _ | refine blk_drew ?_ | refine blk_alloc ?_ _)); refine blk_put (cs := #[.int .i64 0, .int .i64 0, .string (⟨#[]⟩ : ByteArray), .string (⟨#[]⟩ : ByteArray), .bool false]) ?_ 0 _ rfl; (with_reducible repeat (first | refine blk_drewN ?_ _ | refine blk_drew ?_ | refine blk_alloc ?_ _)); exact BK579.out) k_ hk)); (case aO => exact (by (with_reducible repeat (first | apply Kd.R_alloc | apply Kd.R_drewN | apply Kd.R_drew)); exact Kd.R_mono (Kd.R_far (p := ⟨gb579, 0, none⟩) (Kd.R_far (p := ⟨gb579, 4, none⟩) (Kd.R_far (p := ⟨gb579, 3, none⟩) (Kd.R_far (p := ⟨gb579, 2, none⟩) (Kd.R_far (p := ⟨gb579, 1, none⟩) (Kd.R_far (p := ⟨gb579, 0, none⟩) (Kd.R_mono HO_9.out (fun k_ hk => (⟨hk, hk.2⟩ : _ ∧ k_ ≠ gb579))) (fun _ hk => hk.2) (.int .i64 ((rd_T34 l0 x10_2).f0))) (fun _ hk => hk.2) (.int .i64 ((rd_T34 l0 x10_2).f1))) (fun _ hk => hk.2) (.string ((rd_T34 l0 x10_2).f2))) (fun _ hk => hk.2) (.string ((rd_T34 l0 x10_2).f3))) (fun _ hk => hk.2) (.bool ((rd_T34 l0 x10_2).f4))) (fun _ hk => hk.2) (.int .i64 (wrap64 (3 * x10_2)))) (fun _ hk => hk.1.2))); (case aS => exact (below_size (by repeat (first | (with_reducible first | exact HB.out | apply below_alloc | apply pw_below_drewN | apply below_drew1 | refine below_set ?_ GE579.out) | exact HB.out)))); (case aL => have := LMc14.out; omega); intro v581 w17 ho hb hg hat; rw [← Ny580.out] at ho; have n0_ := Aside0.mk (blk_grown (g := gb579) (o := .cells #[.int .i64 (wrap64 (3 * x10_2)), .int .i64 ((rd_T34 l0 x10_2).f1), .string ((rd_T34 l0 x10_2).f2), .string ((rd_T34 l0 x10_2).f3), .bool ((rd_T34 l0 x10_2).f4)] 34 (0, 0)) (by (with_reducible repeat (first | refine blk_drewN ?_ _ | refine blk_drew ?_ | refine blk_alloc ?_ _)); refine blk_put (cs := #[.int .i64 ((rd_T34 l0 x10_2).f0), .int .i64 ((rd_T34 l0 x10_2).f1), .string ((rd_T34 l0 x10_2).f2), .string ((rd_T34 l0 x10_2).f3), .bool ((rd_T34 l0 x10_2).f4)]) ?_ 0 _ rfl; (with_reducible repeat (first | refine blk_drewN ?_ _ | refine blk_drew ?_ | refine blk_alloc ?_ _)); refine blk_put (cs := #[.int .i64 ((rd_T34 l0 x10_2).f0), .int .i64 ((rd_T34 l0 x10_2).f1), .string ((rd_T34 l0 x10_2).f2), .string ((rd_T34 l0 x10_2).f3), .bool false]) ?_ 4 _ rfl; (with_reducible repeat (first | refine blk_drewN ?_ _ | refine blk_drew ?_ | refine blk_alloc ?_ _)); refine blk_put (cs := #[.int .i64 ((rd_T34 l0 x10_2).f0), .int .i64 ((rd_T34 l0 x10_2).f1), .string ((rd_T34 l0 x10_2).f2), .string (⟨#[]⟩ : ByteArray), .bool false]) ?_ 3 _ rfl; (with_reducible repeat (first | refine blk_drewN ?_ _ | refine blk_drew ?_ | refine blk_alloc ?_ _)); refine blk_put (cs := #[.int .i64 ((rd_T34 l0 x10_2).f0), .int .i64 ((rd_T34 l0 x10_2).f1), .string (⟨#[]⟩ : ByteArray), .string (⟨#[]⟩ : ByteArray), .bool false]) ?_ 2 _ rfl; (with_reducible repeat (first | refine blk_drewN ?_ _ | refine blk_drew ?_ | refine blk_alloc ?_ _)); refine blk_put (cs := #[.int .i64 ((rd_T34 l0 x10_2).f0), .int .i64 0, .string (⟨#[]⟩ : ByteArray), .string (⟨#[]⟩ : ByteArray), .bool false]) ?_ 1 _ rfl; (with_reducible repeat (first | refine blk_drewN ?_ _ | refine blk_drew ?_ | refine blk_alloc ?_ _)); refine blk_put (cs := #[.int .i64 0, .int .i64 0, .string (⟨#[]⟩ : ByteArray), .string (⟨#[]⟩ : ByteArray), .bool false]) ?_ 0 _ rfl; (with_reducible repeat (first | refine blk_drewN ?_ _ | refine blk_drew ?_ | refine blk_alloc ?_ _)); exact BK579.out) hg (Kd.R_away HO_9.out (fun _ hk => hk.2))); have n1_ := Aside0.mk (hb); have n2_ := Aside0.mk (ho); clear BK579; clear HB; clear HO_9; have BK579 := n0_; have HB := n1_; have HO582 := n2_; clear n0_ n1_ n2_; clear ho hb hg hat))
                  go_roundg k2
                  case measure => have := HJ5.out; have := HK2.out; omega
                  case rel => exact ⟨(y580), (wrap64 (x10_2 + 1)), (by first | rfl | (simp; done) | (simp [*]; done)), H', ⟨by have := HJ5.out; have := HK2.out; omega⟩, ⟨by (with_reducible repeat (first | apply Kd.R_alloc | apply Kd.R_drewN | apply Kd.R_drew)); exact Kd.R_mono HO582.out (fun _ hk => trivial)⟩, ⟨by repeat (first | (with_reducible first | exact HB.out | apply below_alloc | apply pw_below_drewN | apply below_drew1 | refine below_set ?_ GE579.out) | exact HB.out)⟩⟩
                · rw [if_neg c14] at H
                  exact absurd H (by simp)
              · rw [if_neg c13] at H
                exact absurd H (by simp)
            · rw [if_neg c12] at H
              have c12b0 : decide (x10_2 < (l0.length : Int)) = false := decide_eq_false c12
              clear c12
              have HC18 := Aside0.mk H
              clear H
              go_upto_block 2 with (fail)
              go_cut [12] (fun v12 wc => ∃ (kq : Nat) (x12_17 : List (S34)), Aside0 (cooperagelaw8_SegmentFrom.j3 kq a1 x9_2 x12_17 = some r) ∧ Aside0 (kq ≤ k2) ∧ Aside0 (Kd.R k34 34 wc w.heap.size (fun k_ => some k_ ≠ (v12 : Value).ownBlock) u9 x9_2) ∧ Aside0 (Kd.R k34 34 wc w.heap.size (fun k_ => some k_ ≠ (u9 : Value).ownBlock) v12 x12_17) ∧ Aside0 (Below w.heap.size w wc))
              case first =>
                have H := HC18.out
                clear HC18
                have H' := Aside0.mk H
                clear H
                go_wp2
                go_loopg [12, 13, 14] k2 (fun kq v12 v13 v14 w' => ∃ (x12_3 : List (S34)) (x13_3 : Int) (x14_3 : Int), v13 = .int .i64 x13_3 ∧ v14 = .int .i64 x14_3 ∧ Aside0 (cooperagelaw8_SegmentFrom.l1 kq a1 a2 x9_2 x12_3 x13_3 x14_3 = some r) ∧ Aside0 (kq ≤ k2) ∧ Aside0 (Kd.R k34 34 w' w.heap.size (fun k_ => some k_ ≠ (v12 : Value).ownBlock) u9 x9_2) ∧ Aside0 (Kd.R k34 34 w' w.heap.size (fun k_ => some k_ ≠ (u9 : Value).ownBlock) v12 x12_3) ∧ Aside0 (Below w.heap.size w w'))
                case atStart => exact ⟨(([] : List (S34))), (a1), (0), (by first | rfl | (simp; done) | (simp [*]; done)), (by first | rfl | (simp; done) | (simp [*]; done)), H', ⟨Nat.le_refl _⟩, ⟨by (with_reducible repeat (first | apply Kd.R_alloc | apply Kd.R_drewN | apply Kd.R_drew)); exact Kd.R_mono HO_9.out (fun _ hk => (by simp [Value.ownBlock]))⟩, ⟨by first | exact Kd.R_nil _ _ _ _ _ | exact Kd.N_nil _ _ _ _ _ | exact Kd.V_nil _ _ _ _ _ | exact Kd.Q_nil _ _ _ _ _ | exact Kd.S_nil _ _ _ _ _⟩, ⟨by repeat (first | (with_reducible first | exact HB.out | apply below_alloc | apply pw_below_drewN | apply below_drew1) | exact HB.out)⟩⟩
                case round =>
                  clear H'
                  try clear c1
                  try clear p2
                  try clear p5
                  try clear q5
                  try clear hx5
                  try clear p6
                  try clear c8
                  try clear c9
                  try clear c10
                  try clear c10b0
                  try clear c11
                  try clear c12
                  try clear c12b0
                  try clear c13
                  try clear c13b0
                  try clear c14
                  try clear c17
                  try clear hcz16_0
                  try clear hcz16_1
                  try clear hcz16_2
                  try clear hcz16_3
                  try clear hcz16_4
                  try clear hfz16_0
                  try clear hfz16_1
                  try clear hfz16_2
                  try clear hfz16_3
                  try clear hfz16_4
                  try clear hx578_0
                  try clear hx578_1
                  try clear hx578_2
                  try clear hx578_3
                  try clear hx578_4
                  try clear p2
                  try clear p578
                  try clear q578
                  obtain ⟨x12_3, x13_3, x14_3, rfl, rfl, HA, HK3, HO_9, HO_12, HB⟩ := hrel
                  cases gk with
                  | zero => exact absurd HA.out (by simp [cooperagelaw8_SegmentFrom.l1])
                  | succ k3 =>
                    have H := HA.out
                    clear HA
                    simp only [cooperagelaw8_SegmentFrom.l1] at H
                    by_cases c19 : x14_3 ≤ (x9_2.length : Int)
                    · rw [if_pos c19] at H
                      have c19b0 : decide (x14_3 ≤ (x9_2.length : Int)) = true := decide_eq_true c19
                      clear c19
                      (first | rw [c19b0] | (simp only [i64_w, i32_w]; rw [c19b0]) | skip)
                      replace H := Option.bind_eq_some_iff.mp H
                      obtain ⟨t583, A200, H⟩ := H
                      replace H : (if (t583.length : Int) > a2 then (some false) else (if (t583.length : Int) = 0 then (cooperagelaw8_SegmentFrom.j3 k3 a1 x9_2 x12_3) else (if x12_3.length + t583.length < 2513169434916 then (if 0 ≤ (wrap64 ((t583.length : Int) - 1)) then (if (wrap64 ((t583.length : Int) - 1)) < (t583.length : Int) then (cooperagelaw8_SegmentFrom.l1 k3 a1 a2 x9_2 (x12_3 ++ t583) (wrap64 (((rd_T34 t583 (wrap64 ((t583.length : Int) - 1))).f0) + 1)) (wrap64 (x14_3 + 1))) else (none)) else (none)) else (none)))) = some r := H
                      have A20 := Aside0.mk A200
                      clear A200
                      by_cases c21 : (t583.length : Int) > a2
                      · rw [if_pos c21] at H
                        have c21b0 : decide (a2 < (t583.length : Int)) = true := decide_eq_true c21
                        clear c21
                        obtain rfl := Option.some.inj H
                        obtain ⟨Ao22, co22, eo22⟩ := Kd.R_slice HO_9.out
                        subst eo22
                        go_wp2_with (first | ((with_reducible refine gate_callee (f := 26) rfl ?_); refine goesL_ (some 62) rfl rfl Try.func26 (by kernel_rfl) rfl #[.slice Ao22 x9_2.length co22, .int .i64 x13_3, .int .i64 a2] rfl (by (try simp only [List.map_toArray, List.map_cons, List.map_nil]); first | done | rfl | (simp only [List.length_drop, List.length_take]; rfl)) ?_; (with_reducible refine (segment_From.calls k3 _ _ x9_2 x13_3 a2 t583 _ ?side1 ?side2 A20.out).mono ?_); (case side1 => repeat (first | exact (Kd.R_reads' HO_9.out).2.2 | (with_reducible refine Kd.C_alloc ?_ _) | (with_reducible refine Kd.C_drewN ?_ _) | (with_reducible refine Kd.C_drew ?_))); (case side2 => exact (Kd.R_reads' HO_9.out).2.1); rintro e w23 ⟨v584, rfl, ho0, hb⟩; refine ⟨_, rfl, ?_⟩; have n0_ := Aside0.mk (Kd.R_below (by (with_reducible repeat (first | apply Kd.R_alloc | apply Kd.R_drewN | apply Kd.R_drew)); exact HO_9.out) hb); have n1_ := Aside0.mk (Kd.R_below (by (with_reducible repeat (first | apply Kd.R_alloc | apply Kd.R_drewN | apply Kd.R_drew)); exact HO_12.out) hb); have n2_ := Aside0.mk (Kd.V_lower (Kd.V_mono (ok' := fun k_ => some k_ ≠ (.slice Ao22 x9_2.length co22 : Value).ownBlock ∧ some k_ ≠ (u12 : Value).ownBlock) ho0 (fun k_ hk_ => ⟨(Kd.fresh' (Kd.R_lt (by (with_reducible repeat (first | apply Kd.R_alloc | apply Kd.R_drewN | apply Kd.R_drew)); exact HO_9.out)) k_ hk_.2.1), (Kd.fresh' (Kd.R_lt (by (with_reducible repeat (first | apply Kd.R_alloc | apply Kd.R_drewN | apply Kd.R_drew)); exact HO_12.out)) k_ hk_.2.1)⟩)) (below_size (by repeat (first | (with_reducible first | exact HB.out | apply below_alloc | apply pw_below_drewN | apply below_drew1) | exact HB.out)))); have n3_ := Aside0.mk (below_step (by repeat (first | (with_reducible first | exact HB.out | apply below_alloc | apply pw_below_drewN | apply below_drew1) | exact HB.out)) hb); clear HO_9; clear HO_12; clear HB; have HO_9 := n0_; have HO_12 := n1_; have HO585 := n2_; have HB := n3_; clear n0_ n1_ n2_ n3_; (try clear hb); (try clear hb2); (try clear hk); (try clear hi); (try clear ho0); obtain ⟨Ao24, co24, eo24⟩ := Kd.V_slice HO585.out; subst eo24))
                        go_ret
                        exact ⟨by first | rfl | (simp [errW_none, errW_some] <;> rfl) | (simp [*, errW_none, errW_some] <;> rfl) | (simp [errW_none, errW_some]; generalize ByteArray.toList _ = l_; cases l_ <;> rfl), by repeat (first | (with_reducible first | exact HB.out | apply below_alloc | apply pw_below_drewN | apply below_drew1) | exact HB.out)⟩
                      · rw [if_neg c21] at H
                        have c21b0 : decide (a2 < (t583.length : Int)) = false := decide_eq_false c21
                        clear c21
                        by_cases c25 : (t583.length : Int) = 0
                        · rw [if_pos c25] at H
                          have c25b0 : ((t583.length : Int) == 0) = true := beq_iff_eq.mpr c25
                          have c25b1 : ((t583.length : Int) != 0) = false := bne_eq_false_iff_eq.mpr c25
                          clear c25
                          have H' := Aside0.mk H
                          clear H
                          obtain ⟨Ao26, co26, eo26⟩ := Kd.R_slice HO_9.out
                          subst eo26
                          go_wp2_with (first | ((with_reducible refine gate_callee (f := 26) rfl ?_); refine goesL_ (some 62) rfl rfl Try.func26 (by kernel_rfl) rfl #[.slice Ao26 x9_2.length co26, .int .i64 x13_3, .int .i64 a2] rfl (by (try simp only [List.map_toArray, List.map_cons, List.map_nil]); first | done | rfl | (simp only [List.length_drop, List.length_take]; rfl)) ?_; (with_reducible refine (segment_From.calls k3 _ _ x9_2 x13_3 a2 t583 _ ?side1 ?side2 A20.out).mono ?_); (case side1 => repeat (first | exact (Kd.R_reads' HO_9.out).2.2 | (with_reducible refine Kd.C_alloc ?_ _) | (with_reducible refine Kd.C_drewN ?_ _) | (with_reducible refine Kd.C_drew ?_))); (case side2 => exact (Kd.R_reads' HO_9.out).2.1); rintro e w27 ⟨v584, rfl, ho0, hb⟩; refine ⟨_, rfl, ?_⟩; have n0_ := Aside0.mk (Kd.R_below (by (with_reducible repeat (first | apply Kd.R_alloc | apply Kd.R_drewN | apply Kd.R_drew)); exact HO_9.out) hb); have n1_ := Aside0.mk (Kd.R_below (by (with_reducible repeat (first | apply Kd.R_alloc | apply Kd.R_drewN | apply Kd.R_drew)); exact HO_12.out) hb); have n2_ := Aside0.mk (Kd.V_lower (Kd.V_mono (ok' := fun k_ => some k_ ≠ (.slice Ao26 x9_2.length co26 : Value).ownBlock ∧ some k_ ≠ (u12 : Value).ownBlock) ho0 (fun k_ hk_ => ⟨(Kd.fresh' (Kd.R_lt (by (with_reducible repeat (first | apply Kd.R_alloc | apply Kd.R_drewN | apply Kd.R_drew)); exact HO_9.out)) k_ hk_.2.1), (Kd.fresh' (Kd.R_lt (by (with_reducible repeat (first | apply Kd.R_alloc | apply Kd.R_drewN | apply Kd.R_drew)); exact HO_12.out)) k_ hk_.2.1)⟩)) (below_size (by repeat (first | (with_reducible first | exact HB.out | apply below_alloc | apply pw_below_drewN | apply below_drew1) | exact HB.out)))); have n3_ := Aside0.mk (below_step (by repeat (first | (with_reducible first | exact HB.out | apply below_alloc | apply pw_below_drewN | apply below_drew1) | exact HB.out)) hb); clear HO_9; clear HO_12; clear HB; have HO_9 := n0_; have HO_12 := n1_; have HO585 := n2_; have HB := n3_; clear n0_ n1_ n2_ n3_; (try clear hb); (try clear hb2); (try clear hk); (try clear hi); (try clear ho0); obtain ⟨Ao28, co28, eo28⟩ := Kd.V_slice HO585.out; subst eo28))
                          go_meet
                          case rel => exact ⟨_, (x12_3), H', ⟨by have := HJ5.out; have := HK2.out; have := HK3.out; first | omega | exact Nat.le_refl _⟩, ⟨by (with_reducible repeat (first | apply Kd.R_alloc | apply Kd.R_drewN | apply Kd.R_drew)); exact HO_9.out⟩, ⟨by (with_reducible repeat (first | apply Kd.R_alloc | apply Kd.R_drewN | apply Kd.R_drew)); exact HO_12.out⟩, ⟨by repeat (first | (with_reducible first | exact HB.out | apply below_alloc | apply pw_below_drewN | apply below_drew1) | exact HB.out)⟩⟩
                        · rw [if_neg c25] at H
                          have c25b0 : ((t583.length : Int) == 0) = false := beq_eq_false_iff_ne.mpr c25
                          have c25b1 : ((t583.length : Int) != 0) = true := bne_iff_ne.mpr c25
                          have c25b2 : ¬ (t583 = []) := fun h_ => c25 (by rw [h_]; rfl)
                          by_cases c29 : x12_3.length + t583.length < 2513169434916
                          · rw [if_pos c29] at H
                            have LMc29 := Aside0.mk c29
                            clear c29
                            obtain ⟨y586, hy586⟩ : ∃ y_ : List (S34), y_ = (x12_3 ++ t583) := ⟨_, rfl⟩
                            replace H : (if 0 ≤ (wrap64 ((t583.length : Int) - 1)) then (if (wrap64 ((t583.length : Int) - 1)) < (t583.length : Int) then (cooperagelaw8_SegmentFrom.l1 k3 a1 a2 x9_2 y586 (wrap64 (((rd_T34 t583 (wrap64 ((t583.length : Int) - 1))).f0) + 1)) (wrap64 (x14_3 + 1))) else (none)) else (none)) = some r := by first | (rw [hy586]; with_reducible exact H) | (have H2_ := (Option.bind_some _ _).symm.trans H; rw [hy586]; with_reducible exact H2_) | (have H2_ := (Option.bind_some _ _).symm.trans H; with_reducible exact H2_) | with_reducible exact H | (rw [hy586]; exact H) | exact H
                            have Ny586 := Aside0.mk hy586
                            clear hy586
                            obtain ⟨ji30, hji30⟩ : ∃ j_ : Int, (wrap64 ((t583.length : Int) - 1)) = j_ := ⟨_, rfl⟩
                            replace H : (if 0 ≤ (ji30) then (if (ji30) < (t583.length : Int) then (cooperagelaw8_SegmentFrom.l1 k3 a1 a2 x9_2 y586 (wrap64 (((rd_T34 t583 (ji30)).f0) + 1)) (wrap64 (x14_3 + 1))) else (none)) else (none)) = some r := by first | (rw [hji30] at H; exact H) | (simp only [hji30] at H ⊢; exact H)
                            (try rw [hji30] at A20)
                            have hji30w : (IntKind.i64.wrap ((t583.length : Int) - 1)) = ji30 := (i64_w _).trans hji30
                            by_cases c31 : 0 ≤ (ji30)
                            · rw [if_pos c31] at H
                              have c31b0 : decide (0 ≤ (ji30)) = true := decide_eq_true c31
                              clear c31
                              by_cases c32 : (ji30) < (t583.length : Int)
                              · rw [if_pos c32] at H
                                have c32b0 : decide ((ji30) < (t583.length : Int)) = true := decide_eq_true c32
                                clear c32
                                have H' := Aside0.mk H
                                clear H
                                obtain ⟨Ao33, co33, eo33⟩ := Kd.R_slice HO_9.out
                                subst eo33
                                go_wp2_with (first | ((with_reducible refine gate_callee (f := 26) rfl ?_); refine goesL_ (some 62) rfl rfl Try.func26 (by kernel_rfl) rfl #[.slice Ao33 x9_2.length co33, .int .i64 x13_3, .int .i64 a2] rfl (by (try simp only [List.map_toArray, List.map_cons, List.map_nil]); first | done | rfl | (simp only [List.length_drop, List.length_take]; rfl)) ?_; (with_reducible refine (segment_From.calls k3 _ _ x9_2 x13_3 a2 t583 _ ?side1 ?side2 A20.out).mono ?_); (case side1 => repeat (first | exact (Kd.R_reads' HO_9.out).2.2 | (with_reducible refine Kd.C_alloc ?_ _) | (with_reducible refine Kd.C_drewN ?_ _) | (with_reducible refine Kd.C_drew ?_))); (case side2 => exact (Kd.R_reads' HO_9.out).2.1); rintro e w34 ⟨v584, rfl, ho0, hb⟩; refine ⟨_, rfl, ?_⟩; have n0_ := Aside0.mk (Kd.R_below (by (with_reducible repeat (first | apply Kd.R_alloc | apply Kd.R_drewN | apply Kd.R_drew)); exact HO_9.out) hb); have n1_ := Aside0.mk (Kd.R_below (by (with_reducible repeat (first | apply Kd.R_alloc | apply Kd.R_drewN | apply Kd.R_drew)); exact HO_12.out) hb); have n2_ := Aside0.mk (Kd.V_lower (Kd.V_mono (ok' := fun k_ => some k_ ≠ (.slice Ao33 x9_2.length co33 : Value).ownBlock ∧ some k_ ≠ (u12 : Value).ownBlock) ho0 (fun k_ hk_ => ⟨(Kd.fresh' (Kd.R_lt (by (with_reducible repeat (first | apply Kd.R_alloc | apply Kd.R_drewN | apply Kd.R_drew)); exact HO_9.out)) k_ hk_.2.1), (Kd.fresh' (Kd.R_lt (by (with_reducible repeat (first | apply Kd.R_alloc | apply Kd.R_drewN | apply Kd.R_drew)); exact HO_12.out)) k_ hk_.2.1)⟩)) (below_size (by repeat (first | (with_reducible first | exact HB.out | apply below_alloc | apply pw_below_drewN | apply below_drew1) | exact HB.out)))); have n3_ := Aside0.mk (below_step (by repeat (first | (with_reducible first | exact HB.out | apply below_alloc | apply pw_below_drewN | apply below_drew1) | exact HB.out)) hb); clear HO_9; clear HO_12; clear HB; have HO_9 := n0_; have HO_12 := n1_; have HO585 := n2_; have HB := n3_; clear n0_ n1_ n2_ n3_; (try clear hb); (try clear hb2); (try clear hk); (try clear hi); (try clear ho0); obtain ⟨Ao35, co35, eo35⟩ := Kd.V_slice HO585.out; subst eo35) | ((with_reducible refine gate_builtin (b := .append) (xs := #[(.tmp 70), .tmp 71]) rfl ?_); at_builtin; refine Kd.R_append_rows k34 (w0 := w) w.heap.size rfl (.tmp 70) (.tmp 71) 22 34 (.agg #[(.int .i64 0), (.int .i64 0), (.string ⟨#[]⟩), (.string ⟨#[]⟩), (.bool false)]) 56 rfl Try.underlying22 info34 rfl (by decide) (by omega) u12 x12_3 t583 _ _ _ (fun k_ => some k_ ≠ (.slice Ao33 x9_2.length co33 : Value).ownBlock) (fun _ => False) rfl rfl ?aO ?aR (fun _ _ h => h) (fun _ h => h.elim) ?aF ?aB ?aS ?aL ?_; (case aR => repeat (first | exact (Kd.V_reads' HO585.out).2.2 | (with_reducible refine Kd.C_alloc ?_ _) | (with_reducible refine Kd.C_drewN ?_ _) | (with_reducible refine Kd.C_drew ?_))); (case aB => exact (by repeat (first | (with_reducible first | exact HB.out | apply below_alloc | apply pw_below_drewN | apply below_drew1) | exact HB.out))); (case aF => exact (fun k_ hk => Kd.fresh' (Kd.R_lt (by (with_reducible repeat (first | apply Kd.R_alloc | apply Kd.R_drewN | apply Kd.R_drew)); exact HO_9.out)) k_ hk)); (case aO => exact (by (with_reducible repeat (first | apply Kd.R_alloc | apply Kd.R_drewN | apply Kd.R_drew)); exact HO_12.out)); (case aS => exact (below_size (by repeat (first | (with_reducible first | exact HB.out | apply below_alloc | apply pw_below_drewN | apply below_drew1) | exact HB.out)))); (case aL => have := LMc29.out; omega); intro v587 w36 ho hb hg hat; rw [← Ny586.out] at ho; have n0_ := Aside0.mk (Kd.R_after (ok := (fun _ => True)) (by (with_reducible repeat (first | apply Kd.R_alloc | apply Kd.R_drewN | apply Kd.R_drew)); exact Kd.R_mono HO_9.out (fun _ hk => ⟨trivial, hk⟩)) hg hat); have n1_ := Aside0.mk (Kd.V_afterv (ok := (fun k_ => some k_ ≠ (.slice Ao33 x9_2.length co33 : Value).ownBlock)) (by (with_reducible repeat (first | apply Kd.V_alloc | apply Kd.V_drewN | apply Kd.V_drew)); exact HO585.out) hg hat); have n2_ := Aside0.mk (hb); have n3_ := Aside0.mk (ho); clear HO_9; clear HO585; clear HB; clear HO_12; have HO_9 := n0_; have HO585 := n1_; have HB := n2_; have HO588 := n3_; clear n0_ n1_ n2_ n3_; clear ho hb hg hat; have p589 : 0 ≤ ((ji30) : Int) := of_decide_eq_true (by first | (with_reducible assumption) | assumption); have q589 : (ji30) < (t583.length : Int) := of_decide_eq_true (by first | (with_reducible assumption) | assumption); obtain ⟨ad589, e589, hx589_0, hx589_1, hx589_2, hx589_3, hx589_4⟩ := at_T34 (Kd.V_reads' HO585.out).2.2 (ji30) p589 q589; cases e589; replace p589 := eq_true p589; replace q589 := eq_true q589))
                                go_roundg k3
                                case measure => have := HJ5.out; have := HK2.out; have := HK3.out; omega
                                case rel => exact ⟨(y586), (wrap64 (((rd_T34 t583 (ji30)).f0) + 1)), (wrap64 (x14_3 + 1)), (by first | rfl | (simp; done) | (simp only [← hji30] <;> (first | rfl | simp)) | (simp [*]; done)), (by first | rfl | (simp; done) | (simp [*]; done)), H', ⟨by have := HJ5.out; have := HK2.out; have := HK3.out; omega⟩, ⟨by (with_reducible repeat (first | apply Kd.R_alloc | apply Kd.R_drewN | apply Kd.R_drew)); exact Kd.R_mono HO_9.out (fun _ hk => hk.2)⟩, ⟨by (with_reducible repeat (first | apply Kd.R_alloc | apply Kd.R_drewN | apply Kd.R_drew)); exact HO588.out⟩, ⟨by repeat (first | (with_reducible first | exact HB.out | apply below_alloc | apply pw_below_drewN | apply below_drew1) | exact HB.out)⟩⟩
                              · rw [if_neg c32] at H
                                exact absurd H (by simp)
                            · rw [if_neg c31] at H
                              exact absurd H (by simp)
                          · rw [if_neg c29] at H
                            exact absurd H (by simp)
                    · rw [if_neg c19] at H
                      have c19b0 : decide (x14_3 ≤ (x9_2.length : Int)) = false := decide_eq_false c19
                      clear c19
                      (first | rw [c19b0] | (simp only [i64_w, i32_w]; rw [c19b0]) | skip)
                      have H' := Aside0.mk H
                      clear H
                      obtain ⟨Ao37, co37, eo37⟩ := Kd.R_slice HO_9.out
                      subst eo37
                      go_wp2
                      go_meet
                      case rel => exact ⟨_, (x12_3), H', ⟨by have := HJ5.out; have := HK2.out; have := HK3.out; first | omega | exact Nat.le_refl _⟩, ⟨by (with_reducible repeat (first | apply Kd.R_alloc | apply Kd.R_drewN | apply Kd.R_drew)); exact HO_9.out⟩, ⟨by (with_reducible repeat (first | apply Kd.R_alloc | apply Kd.R_drewN | apply Kd.R_drew)); exact HO_12.out⟩, ⟨by repeat (first | (with_reducible first | exact HB.out | apply below_alloc | apply pw_below_drewN | apply below_drew1) | exact HB.out)⟩⟩
              case rest =>
                clear HC18
                try clear c1
                try clear c2
                try clear p2
                try clear c3
                try clear p5
                try clear q5
                try clear hx5
                try clear p6
                try clear c8
                try clear c9
                try clear c10
                try clear c10b0
                try clear c11
                try clear c12
                try clear c12b0
                try clear c13
                try clear c13b0
                try clear c14
                try clear c17
                try clear c19
                try clear c19b0
                try clear c21
                try clear c21b0
                try clear c25
                try clear c25b0
                try clear c25b1
                try clear c25b2
                try clear c26
                try clear c29
                try clear c31
                try clear c31b0
                try clear c32
                try clear c32b0
                try clear hcz16_0
                try clear hcz16_1
                try clear hcz16_2
                try clear hcz16_3
                try clear hcz16_4
                try clear hfz16_0
                try clear hfz16_1
                try clear hfz16_2
                try clear hfz16_3
                try clear hfz16_4
                try clear hx578_0
                try clear hx578_1
                try clear hx578_2
                try clear hx578_3
                try clear hx578_4
                try clear hx589_0
                try clear hx589_1
                try clear hx589_2
                try clear hx589_3
                try clear hx589_4
                try clear p2
                try clear p5
                try clear p578
                try clear p589
                try clear p6
                try clear q5
                try clear q578
                try clear q589
                obtain ⟨kq, x12_17, HA, HJ17, HO_9, HO_12, HB⟩ := hcut
                cases kq with
                | zero => exact absurd HA.out (by simp [cooperagelaw8_SegmentFrom.j3])
                | succ kj17 =>
                  have H := HA.out
                  clear HA
                  simp only [cooperagelaw8_SegmentFrom.j3] at H
                  have H' := Aside0.mk H
                  clear H
                  go_wp2
                  go_loopg [16, 17] kj17 (fun kq v16 v17 w' => ∃ (x16_4 : List (S34)) (x17_4 : Int), v17 = .int .i64 x17_4 ∧ Aside0 (cooperagelaw8_SegmentFrom.l2 kq a1 x9_2 x12_17 x16_4 x17_4 = some r) ∧ Aside0 (kq ≤ kj17) ∧ Aside0 (Kd.R k34 34 w' w.heap.size (fun k_ => some k_ ≠ (u12 : Value).ownBlock ∧ some k_ ≠ (v16 : Value).ownBlock) u9 x9_2) ∧ Aside0 (Kd.R k34 34 w' w.heap.size (fun k_ => some k_ ≠ (u9 : Value).ownBlock ∧ some k_ ≠ (v16 : Value).ownBlock) u12 x12_17) ∧ Aside0 (Kd.R k34 34 w' w.heap.size (fun k_ => some k_ ≠ (u9 : Value).ownBlock ∧ some k_ ≠ (u12 : Value).ownBlock) v16 x16_4) ∧ Aside0 (Below w.heap.size w w'))
                  case atStart => exact ⟨(([] : List (S34))), (0), (by first | rfl | (simp; done) | (simp [*]; done)), H', ⟨Nat.le_refl _⟩, ⟨by (with_reducible repeat (first | apply Kd.R_alloc | apply Kd.R_drewN | apply Kd.R_drew)); exact Kd.R_mono HO_9.out (fun _ hk => ⟨hk, (by simp [Value.ownBlock])⟩)⟩, ⟨by (with_reducible repeat (first | apply Kd.R_alloc | apply Kd.R_drewN | apply Kd.R_drew)); exact Kd.R_mono HO_12.out (fun _ hk => ⟨hk, (by simp [Value.ownBlock])⟩)⟩, ⟨by first | exact Kd.R_nil _ _ _ _ _ | exact Kd.N_nil _ _ _ _ _ | exact Kd.V_nil _ _ _ _ _ | exact Kd.Q_nil _ _ _ _ _ | exact Kd.S_nil _ _ _ _ _⟩, ⟨by repeat (first | (with_reducible first | exact HB.out | apply below_alloc | apply pw_below_drewN | apply below_drew1) | exact HB.out)⟩⟩
                  case round =>
                    clear H'
                    try clear c1
                    try clear c2
                    try clear p2
                    try clear c3
                    try clear p5
                    try clear q5
                    try clear hx5
                    try clear p6
                    try clear c8
                    try clear c9
                    try clear c10
                    try clear c10b0
                    try clear c11
                    try clear c12
                    try clear c12b0
                    try clear c13
                    try clear c13b0
                    try clear c14
                    try clear c17
                    try clear c19
                    try clear c19b0
                    try clear c21
                    try clear c21b0
                    try clear c25
                    try clear c25b0
                    try clear c25b1
                    try clear c25b2
                    try clear c26
                    try clear c29
                    try clear c31
                    try clear c31b0
                    try clear c32
                    try clear c32b0
                    try clear hcz16_0
                    try clear hcz16_1
                    try clear hcz16_2
                    try clear hcz16_3
                    try clear hcz16_4
                    try clear hfz16_0
                    try clear hfz16_1
                    try clear hfz16_2
                    try clear hfz16_3
                    try clear hfz16_4
                    try clear hx578_0
                    try clear hx578_1
                    try clear hx578_2
                    try clear hx578_3
                    try clear hx578_4
                    try clear hx589_0
                    try clear hx589_1
                    try clear hx589_2
                    try clear hx589_3
                    try clear hx589_4
                    try clear p2
                    try clear p5
                    try clear p578
                    try clear p589
                    try clear p6
                    try clear q5
                    try clear q578
                    try clear q589
                    obtain ⟨x16_4, x17_4, rfl, HA, HK4, HO_9, HO_12, HO_16, HB⟩ := hrel
                    cases gk with
                    | zero => exact absurd HA.out (by simp [cooperagelaw8_SegmentFrom.l2])
                    | succ k4 =>
                      have H := HA.out
                      clear HA
                      simp only [cooperagelaw8_SegmentFrom.l2] at H
                      by_cases c38 : x17_4 < (x9_2.length : Int)
                      · rw [if_pos c38] at H
                        have c38b0 : decide (x17_4 < (x9_2.length : Int)) = true := decide_eq_true c38
                        clear c38
                        by_cases c39 : 0 ≤ x17_4
                        · rw [if_pos c39] at H
                          have c39b0 : decide (0 ≤ x17_4) = true := decide_eq_true c39
                          clear c39
                          by_cases c40 : ((rd_T34 x9_2 x17_4).f0) ≥ a1
                          · rw [if_pos c40] at H
                            have c40b0 : decide (a1 ≤ ((rd_T34 x9_2 x17_4).f0)) = true := decide_eq_true c40
                            clear c40
                            by_cases c41 : x16_4.length < 2513169434916
                            · rw [if_pos c41] at H
                              have LMc41 := Aside0.mk c41
                              clear c41
                              obtain ⟨y592, hy592⟩ : ∃ y_ : List (S34), y_ = (x16_4 ++ [(⟨(rd_T34 x9_2 x17_4).f0, (rd_T34 x9_2 x17_4).f1, (rd_T34 x9_2 x17_4).f2, (rd_T34 x9_2 x17_4).f3, (rd_T34 x9_2 x17_4).f4⟩ : S34)]) := ⟨_, rfl⟩
                              replace H : (cooperagelaw8_SegmentFrom.l2 k4 a1 x9_2 x12_17 y592 (wrap64 (x17_4 + 1))) = some r := by first | (rw [hy592]; with_reducible exact H) | (have H2_ := (Option.bind_some _ _).symm.trans H; rw [hy592]; with_reducible exact H2_) | (have H2_ := (Option.bind_some _ _).symm.trans H; with_reducible exact H2_) | with_reducible exact H | (rw [hy592]; exact H) | exact H
                              have Ny592 := Aside0.mk hy592
                              clear hy592
                              have H' := Aside0.mk H
                              clear H
                              obtain ⟨Ao42, co42, eo42⟩ := Kd.R_slice HO_9.out
                              subst eo42
                              have p590 : 0 ≤ (x17_4 : Int) := of_decide_eq_true (by first | (with_reducible assumption) | assumption)
                              have q590 : x17_4 < (x9_2.length : Int) := of_decide_eq_true (by first | (with_reducible assumption) | assumption)
                              obtain ⟨ad590, e590, hx590_0, hx590_1, hx590_2, hx590_3, hx590_4⟩ := at_T34 (Kd.R_reads' HO_9.out).2.2 x17_4 p590 q590
                              cases e590
                              replace p590 := eq_true p590
                              replace q590 := eq_true q590
                              have p591 : 0 ≤ (x17_4 : Int) := of_decide_eq_true (by first | (with_reducible assumption) | assumption)
                              have q591 : x17_4 < (x9_2.length : Int) := of_decide_eq_true (by first | (with_reducible assumption) | assumption)
                              obtain ⟨ad591, e591, hx591_0, hx591_1, hx591_2, hx591_3, hx591_4⟩ := at_T34 (Kd.R_reads' HO_9.out).2.2 x17_4 p591 q591
                              obtain rfl : ad590 = ad591 := (by injection e591)
                              replace p591 := eq_true p591
                              replace q591 := eq_true q591
                              go_wp2_with (first | ((with_reducible refine gate_builtin (b := .append) (xs := #[(.tmp 94), .tmp 99]) rfl ?_); at_builtin; refine Kd.R_append k34 (w0 := w) w.heap.size rfl (.tmp 94) (.tmp 99) 22 34 (.agg #[(.int .i64 0), (.int .i64 0), (.string ⟨#[]⟩), (.string ⟨#[]⟩), (.bool false)]) 56 rfl Try.underlying22 info34 rfl (by decide) (by omega) u16 x16_4 (⟨(rd_T34 x9_2 x17_4).f0, (rd_T34 x9_2 x17_4).f1, (rd_T34 x9_2 x17_4).f2, (rd_T34 x9_2 x17_4).f3, (rd_T34 x9_2 x17_4).f4⟩ : S34) [.int .i64 ((rd_T34 x9_2 x17_4).f0), .int .i64 ((rd_T34 x9_2 x17_4).f1), .string ((rd_T34 x9_2 x17_4).f2), .string ((rd_T34 x9_2 x17_4).f3), .bool ((rd_T34 x9_2 x17_4).f4)] (fun k_ => some k_ ≠ (.slice (some ad590) x9_2.length co42 : Value).ownBlock ∧ some k_ ≠ (u12 : Value).ownBlock) (fun _ => False) rfl rfl ?aP (fun _ hk => hk.elim) ?aF ?aO ?aB ?aS ?aL ?_; (case aP => exact k34_mkM _ _ _ (⟨(rd_T34 x9_2 x17_4).f0, (rd_T34 x9_2 x17_4).f1, (rd_T34 x9_2 x17_4).f2, (rd_T34 x9_2 x17_4).f3, (rd_T34 x9_2 x17_4).f4⟩ : S34)); (case aB => exact (by repeat (first | (with_reducible first | exact HB.out | apply below_alloc | apply pw_below_drewN | apply below_drew1) | exact HB.out))); (case aF => exact (fun k_ hk => ⟨Kd.fresh' (Kd.R_lt (by (with_reducible repeat (first | apply Kd.R_alloc | apply Kd.R_drewN | apply Kd.R_drew)); exact HO_9.out)) k_ hk, Kd.fresh' (Kd.R_lt (by (with_reducible repeat (first | apply Kd.R_alloc | apply Kd.R_drewN | apply Kd.R_drew)); exact HO_12.out)) k_ hk⟩)); (case aO => exact (by (with_reducible repeat (first | apply Kd.R_alloc | apply Kd.R_drewN | apply Kd.R_drew)); exact HO_16.out)); (case aS => exact (below_size (by repeat (first | (with_reducible first | exact HB.out | apply below_alloc | apply pw_below_drewN | apply below_drew1) | exact HB.out)))); (case aL => have := LMc41.out; omega); intro v593 w43 ho hb hg hat; rw [← Ny592.out] at ho; have n0_ := Aside0.mk (Kd.R_after (ok := (fun k_ => some k_ ≠ (u12 : Value).ownBlock)) (by (with_reducible repeat (first | apply Kd.R_alloc | apply Kd.R_drewN | apply Kd.R_drew)); exact HO_9.out) hg hat); have n1_ := Aside0.mk (Kd.R_after (ok := (fun k_ => some k_ ≠ (.slice (some ad590) x9_2.length co42 : Value).ownBlock)) (by (with_reducible repeat (first | apply Kd.R_alloc | apply Kd.R_drewN | apply Kd.R_drew)); exact HO_12.out) hg hat); have n2_ := Aside0.mk (hb); have n3_ := Aside0.mk (ho); clear HO_9; clear HO_12; clear HB; clear HO_16; have HO_9 := n0_; have HO_12 := n1_; have HB := n2_; have HO594 := n3_; clear n0_ n1_ n2_ n3_; clear ho hb hg hat))
                              go_roundg k4
                              case measure => have := HJ5.out; have := HK2.out; have := HJ17.out; have := HK4.out; omega
                              case rel => exact ⟨(y592), (wrap64 (x17_4 + 1)), (by first | rfl | (simp; done) | (simp [*]; done)), H', ⟨by have := HJ5.out; have := HK2.out; have := HJ17.out; have := HK4.out; omega⟩, ⟨by (with_reducible repeat (first | apply Kd.R_alloc | apply Kd.R_drewN | apply Kd.R_drew)); exact HO_9.out⟩, ⟨by (with_reducible repeat (first | apply Kd.R_alloc | apply Kd.R_drewN | apply Kd.R_drew)); exact HO_12.out⟩, ⟨by (with_reducible repeat (first | apply Kd.R_alloc | apply Kd.R_drewN | apply Kd.R_drew)); exact HO594.out⟩, ⟨by repeat (first | (with_reducible first | exact HB.out | apply below_alloc | apply pw_below_drewN | apply below_drew1) | exact HB.out)⟩⟩
                            · rw [if_neg c41] at H
                              exact absurd H (by simp)
                          · rw [if_neg c40] at H
                            have c40b0 : decide (a1 ≤ ((rd_T34 x9_2 x17_4).f0)) = false := decide_eq_false c40
                            clear c40
                            have H' := Aside0.mk H
                            clear H
                            obtain ⟨Ao44, co44, eo44⟩ := Kd.R_slice HO_9.out
                            subst eo44
                            have p590 : 0 ≤ (x17_4 : Int) := of_decide_eq_true (by first | (with_reducible assumption) | assumption)
                            have q590 : x17_4 < (x9_2.length : Int) := of_decide_eq_true (by first | (with_reducible assumption) | assumption)
                            obtain ⟨ad590, e590, hx590_0, hx590_1, hx590_2, hx590_3, hx590_4⟩ := at_T34 (Kd.R_reads' HO_9.out).2.2 x17_4 p590 q590
                            cases e590
                            replace p590 := eq_true p590
                            replace q590 := eq_true q590
                            go_wp2
                            go_roundg k4
                            case measure => have := HJ5.out; have := HK2.out; have := HJ17.out; have := HK4.out; omega
                            case rel => exact ⟨(x16_4), (wrap64 (x17_4 + 1)), (by first | rfl | (simp; done) | (simp [*]; done)), H', ⟨by have := HJ5.out; have := HK2.out; have := HJ17.out; have := HK4.out; omega⟩, ⟨by (with_reducible repeat (first | apply Kd.R_alloc | apply Kd.R_drewN | apply Kd.R_drew)); exact HO_9.out⟩, ⟨by (with_reducible repeat (first | apply Kd.R_alloc | apply Kd.R_drewN | apply Kd.R_drew)); exact HO_12.out⟩, ⟨by (with_reducible repeat (first | apply Kd.R_alloc | apply Kd.R_drewN | apply Kd.R_drew)); exact HO_16.out⟩, ⟨by repeat (first | (with_reducible first | exact HB.out | apply below_alloc | apply pw_below_drewN | apply below_drew1) | exact HB.out)⟩⟩
                        · rw [if_neg c39] at H
                          exact absurd H (by simp)
                      · rw [if_neg c38] at H
                        have c38b0 : decide (x17_4 < (x9_2.length : Int)) = false := decide_eq_false c38
                        clear c38
                        replace H := Option.bind_eq_some_iff.mp H
                        obtain ⟨t595, A450, H⟩ := H
                        replace H : (some t595) = some r := H
                        have A45 := Aside0.mk A450
                        clear A450
                        obtain rfl := Option.some.inj H
                        obtain ⟨Ao46, co46, eo46⟩ := Kd.R_slice HO_9.out
                        subst eo46
                        obtain ⟨Ao47, co47, eo47⟩ := Kd.R_slice HO_12.out
                        subst eo47
                        obtain ⟨Ao48, co48, eo48⟩ := Kd.R_slice HO_16.out
                        subst eo48
                        go_wp2_with (first | ((with_reducible refine gate_callee (f := 20) rfl ?_); refine goesL_ (some 103) rfl rfl Try.func20 (by kernel_rfl) rfl #[.slice Ao47 x12_17.length co47, .slice Ao48 x16_4.length co48] rfl (by (try simp only [List.map_toArray, List.map_cons, List.map_nil]); first | done | rfl | (simp only [List.length_drop, List.length_take]; rfl)) ?_; (with_reducible refine (cooperageref1_SameRecords.calls k4 _ _ x12_17 _ _ x16_4 t595 _ ?side1 ?side2 ?side3 ?side4 A45.out).mono ?_); (case side1 => repeat (first | exact (Kd.R_reads' HO_12.out).2.2 | (with_reducible refine Kd.C_alloc ?_ _) | (with_reducible refine Kd.C_drewN ?_ _) | (with_reducible refine Kd.C_drew ?_))); (case side2 => exact (Kd.R_reads' HO_12.out).2.1); (case side3 => repeat (first | exact (Kd.R_reads' HO_16.out).2.2 | (with_reducible refine Kd.C_alloc ?_ _) | (with_reducible refine Kd.C_drewN ?_ _) | (with_reducible refine Kd.C_drew ?_))); (case side4 => exact (Kd.R_reads' HO_16.out).2.1); rintro e w' ⟨rfl, ⟨nd, rfl⟩⟩; refine ⟨_, rfl, ?_⟩))
                        go_ret
                        exact ⟨by first | rfl | (simp [errW_none, errW_some] <;> rfl) | (simp [*, errW_none, errW_some] <;> rfl) | (simp [errW_none, errW_some]; generalize ByteArray.toList _ = l_; cases l_ <;> rfl), by repeat (first | (with_reducible first | exact HB.out | apply below_alloc | apply pw_below_drewN | apply below_drew1) | exact HB.out)⟩

end Go.Proofs.Ytphnolgneojdhaa.S

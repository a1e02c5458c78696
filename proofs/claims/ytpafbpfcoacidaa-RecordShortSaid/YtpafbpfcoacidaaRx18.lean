-- printed by a program of this session (a changed copy of the kit's printer)
import Derived.Test.YtpafbpfcoacidaaRx0
import Derived.Test.YtpafbpfcoacidaaRx1
import Derived.Test.YtpafbpfcoacidaaRx4
import Derived.Test.YtpafbpfcoacidaaRx11
import Derived.Test.YtpafbpfcoacidaaRx12
import Derived.Test.YtpafbpfcoacidaaRx16
import Derived.Test.YtpafbpfcoacidaaRx17
namespace Go.Proofs.Ytpafbpfcoacidaa.R
open Go.RowKit Go.Proofs.YtpafbpfcoacidaaW.PrintWords Go.Proofs.YtpafbpfcoacidaaW.PrintLast Go.Proofs.YtpafbpfcoacidaaW.PrintMore
attribute [local go_sem] max2_int min2_int max_two min_two max_three min_three max_four min_four   -- for this text's walks alone
set_option linter.unusedVariables false
set_option linter.unusedSimpArgs false

attribute [local go_sem high] eqA25
/-! ### cooperagelaw4_RecordShort: function 9 -/
def cooperagelaw4_RecordShort.j0 : Nat → Int → Bool → Bool → Int → Int → ByteArray → ByteArray → Bool → Option (Bool)
  | 0, _, _, _, _, _, _, _, _ => none
  | k + 1, x1, x5, x33, x317000, x317001, x317002, x317003, x317004 => if x33 = true then (some x5) else ((cooperageref1_PutRecord.f k ([] : List Int) x317000 x317001 x317002 x317003 x317004).bind fun t319 => (if (t319.length : Int) = 0 then (none) else (if 0 ≤ (Int.tmod x1 (t319.length : Int)) then (if (Int.tmod x1 (t319.length : Int)) ≤ (t319.length : Int) then ((record_Get.f k (t319.take ((Int.tmod x1 (t319.length : Int)) : Int).toNat)).bind fun bt326 => ((cooperagelaw4_num.f bt326.2.2.2.2.2.2).bind fun t334 => (if t334 = 4 then (if bt326.2.2.2.2.2.1 = 0 then (some (bt326.1 == 0 && (bt326.2.1 == 0 && (bt326.2.2.1.toList == ([] : List UInt8) && (bt326.2.2.2.1.toList == ([] : List UInt8) && (!bt326.2.2.2.2.1)))))) else (some false)) else (some false)))) else (none)) else (none))))
def cooperagelaw4_RecordShort.f (k : Nat) (a0_0 : Int) (a0_1 : Int) (a0_2 : ByteArray) (a0_3 : ByteArray) (a0_4 : Bool) (a1 : Int) : Option (Bool) := (cooperagelaw4_alive.f k).bind fun t317 => (if t317 = true then (if (a0_2.size : Int) > 200 then (cooperagelaw4_RecordShort.j0 k a1 t317 true a0_0 a0_1 a0_2 a0_3 a0_4) else (if (a0_3.size : Int) > 500 then (cooperagelaw4_RecordShort.j0 k a1 t317 true a0_0 a0_1 a0_2 a0_3 a0_4) else ((cooperageref1_Right.f a0_0 a0_1 a0_2 a0_3 a0_4).bind fun t318 => (if t318 = true then (cooperagelaw4_RecordShort.j0 k a1 t317 (decide (a1 < 0)) a0_0 a0_1 a0_2 a0_3 a0_4) else (cooperagelaw4_RecordShort.j0 k a1 t317 true a0_0 a0_1 a0_2 a0_3 a0_4))))) else (cooperagelaw4_RecordShort.j0 k a1 t317 true a0_0 a0_1 a0_2 a0_3 a0_4))
theorem cooperagelaw4_RecordShort.mono_l : ∀ k, (∀ y0 y1 y2 y3 y4 y5 y6 y7, LeO (cooperagelaw4_RecordShort.j0 k y0 y1 y2 y3 y4 y5 y6 y7) (cooperagelaw4_RecordShort.j0 (k + 1) y0 y1 y2 y3 y4 y5 y6 y7))
  | 0 => fun _ _ _ _ _ _ _ _ r h => by simp [cooperagelaw4_RecordShort.j0] at h
  | k + 1 => by
    have ih0 := cooperagelaw4_RecordShort.mono_l k
    · intro y0 y1 y2 y3 y4 y5 y6 y7
      unfold cooperagelaw4_RecordShort.j0
      repeat' first
      | (with_reducible exact ih0 _ _ _ _ _ _ _ _)
      | (with_reducible exact cooperagelaw4_alive.mono _)
      | (with_reducible exact cooperageref1_PutRecord.mono _ _ _ _ _ _ _)
      | (with_reducible exact record_Get.mono _ _)
      | (with_reducible exact LeO.refl _)
      | (with_reducible exact LeO.none _)
      | (with_reducible refine LeO.ite ?_ ?_)
      | (with_reducible refine LeO.bind ?_ (fun _ => ?_))
      | exact ih0 _ _ _ _ _ _ _ _
      | exact cooperagelaw4_alive.mono _
      | exact cooperageref1_PutRecord.mono _ _ _ _ _ _ _
      | exact record_Get.mono _ _
      | exact LeO.none _
      | refine LeO.ite ?_ ?_
      | refine LeO.bind ?_ (fun _ => ?_)
theorem cooperagelaw4_RecordShort.mono : ∀ a0 a1 a2 a3 a4 a5 k, LeO (cooperagelaw4_RecordShort.f k a0 a1 a2 a3 a4 a5) (cooperagelaw4_RecordShort.f (k + 1) a0 a1 a2 a3 a4 a5) := by
  intro a0 a1 a2 a3 a4 a5 k
  have ih0 := cooperagelaw4_RecordShort.mono_l k
  unfold cooperagelaw4_RecordShort.f
  repeat' first
      | (with_reducible exact ih0 _ _ _ _ _ _ _ _)
      | (with_reducible exact cooperagelaw4_alive.mono _)
      | (with_reducible exact cooperageref1_PutRecord.mono _ _ _ _ _ _ _)
      | (with_reducible exact record_Get.mono _ _)
      | (with_reducible exact LeO.refl _)
      | (with_reducible exact LeO.none _)
      | (with_reducible refine LeO.ite ?_ ?_)
      | (with_reducible refine LeO.bind ?_ (fun _ => ?_))
      | exact ih0 _ _ _ _ _ _ _ _
      | exact cooperagelaw4_alive.mono _
      | exact cooperageref1_PutRecord.mono _ _ _ _ _ _ _
      | exact record_Get.mono _ _
      | exact LeO.none _
      | refine LeO.ite ?_ ?_
      | refine LeO.bind ?_ (fun _ => ?_)
set_option maxHeartbeats 8000000 in
set_option maxRecDepth 100000 in
theorem cooperagelaw4_RecordShort.calls (k : Nat) (a0_0 : Int) (a0_1 : Int) (a0_2 : ByteArray) (a0_3 : ByteArray) (a0_4 : Bool) (a1 : Int) (r : Bool) (w : World) (h : cooperagelaw4_RecordShort.f k a0_0 a0_1 a0_2 a0_3 a0_4 a1 = some r) :
    Calls Try.prog 9 #[.agg #[.int .i64 a0_0, .int .i64 a0_1, .string a0_2, .string a0_3, .bool a0_4], .int .i64 a1] w fun e w' => e = .returned (.bool r) ∧ Below w.heap.size w w' := by
  have hu25 := Try.underlying25
  have HB := Aside0.mk (Below.refl w.heap.size w)
  have H : ((cooperagelaw4_alive.f k).bind fun t317 => (if t317 = true then (if (a0_2.size : Int) > 200 then (cooperagelaw4_RecordShort.j0 k a1 t317 true a0_0 a0_1 a0_2 a0_3 a0_4) else (if (a0_3.size : Int) > 500 then (cooperagelaw4_RecordShort.j0 k a1 t317 true a0_0 a0_1 a0_2 a0_3 a0_4) else ((cooperageref1_Right.f a0_0 a0_1 a0_2 a0_3 a0_4).bind fun t318 => (if t318 = true then (cooperagelaw4_RecordShort.j0 k a1 t317 (decide (a1 < 0)) a0_0 a0_1 a0_2 a0_3 a0_4) else (cooperagelaw4_RecordShort.j0 k a1 t317 true a0_0 a0_1 a0_2 a0_3 a0_4))))) else (cooperagelaw4_RecordShort.j0 k a1 t317 true a0_0 a0_1 a0_2 a0_3 a0_4))) = some r := h
  clear h
  replace H := Option.bind_eq_some_iff.mp H
  obtain ⟨t317, A30, H⟩ := H
  replace H : (if t317 = true then (if (a0_2.size : Int) > 200 then (cooperagelaw4_RecordShort.j0 k a1 t317 true a0_0 a0_1 a0_2 a0_3 a0_4) else (if (a0_3.size : Int) > 500 then (cooperagelaw4_RecordShort.j0 k a1 t317 true a0_0 a0_1 a0_2 a0_3 a0_4) else ((cooperageref1_Right.f a0_0 a0_1 a0_2 a0_3 a0_4).bind fun t318 => (if t318 = true then (cooperagelaw4_RecordShort.j0 k a1 t317 (decide (a1 < 0)) a0_0 a0_1 a0_2 a0_3 a0_4) else (cooperagelaw4_RecordShort.j0 k a1 t317 true a0_0 a0_1 a0_2 a0_3 a0_4))))) else (cooperagelaw4_RecordShort.j0 k a1 t317 true a0_0 a0_1 a0_2 a0_3 a0_4)) = some r := H
  have A3 := Aside0.mk A30
  clear A30
  have HC4 := Aside0.mk H
  clear H
  go_enter Try.func9, Try.ntmps9
  go_upto_region 2 with (first | ((with_reducible refine gate_dst (N := 2) rfl ?_); (try (refine gate_guard (by rfl) ?_; dsimp only)); refine box_event ?hg (N := 2) ?hd (cs := #[.int .i64 a0_0, .int .i64 a0_1, .string a0_2, .string a0_3, .bool a0_4]) (t := 25) ?hr ?_; (case hd => rfl); (case hg => rfl); (case hr => first | (go_simp; done) | (go_simp; rfl)); intro gb316 hg w5 hbox hb; have n0_ := Aside0.mk (below_step (by repeat (first | (with_reducible first | exact HB.out | apply below_alloc | apply pw_below_drewN | apply below_drew1) | exact HB.out)) hb); have n1_ := Aside0.mk (hbox); have n2_ := Aside0.mk ((by rw [hg]; exact (below_size (by repeat (first | (with_reducible first | exact HB.out | apply below_alloc | apply pw_below_drewN | apply below_drew1) | exact HB.out))) : w.heap.size ≤ gb316)); have n3_ := Aside0.mk ((by rw [hg]; exact (below_size (by repeat (first | (with_reducible first | exact HB.out | apply below_alloc | apply pw_below_drewN | apply below_drew1) | exact HB.out))) : w.heap.size ≤ gb316)); clear HB; have HB := n0_; have BK316 := n1_; have GW316 := n2_; have GE316 := n3_; clear n0_ n1_ n2_ n3_; clear hb hbox hg) | ((with_reducible refine gate_callee (f := 12) rfl ?_); refine goesL_ (some 10) rfl rfl Try.func12 (by kernel_rfl) rfl #[] rfl (by (try simp only [List.map_toArray, List.map_cons, List.map_nil]); first | done | rfl | (simp only [List.length_drop, List.length_take]; rfl)) ?_; (with_reducible refine (cooperagelaw4_alive.calls k  t317 _ A3.out).mono ?_); rintro e w6 ⟨rfl, hb⟩; refine ⟨_, rfl, ?_⟩; have n0_ := Aside0.mk (blk_below (g := gb316) (o := .cells #[.int .i64 a0_0, .int .i64 a0_1, .string a0_2, .string a0_3, .bool a0_4] 25 (0, 0)) (by (with_reducible repeat (first | refine blk_drewN ?_ _ | refine blk_drew ?_ | refine blk_alloc ?_ _)); exact BK316.out) hb); have n1_ := Aside0.mk (below_step (by repeat (first | (with_reducible first | exact HB.out | apply below_alloc | apply pw_below_drewN | apply below_drew1 | refine below_set ?_ GE316.out) | exact HB.out)) hb); clear BK316; clear HB; have BK316 := n0_; have HB := n1_; clear n0_ n1_; (try clear hb); (try clear hb2); (try clear hk); (try clear hi)))
  (try simp only [Act.put, List.setIfInBounds_toArray, List.set_cons_zero, List.set_cons_succ])
  go_cut [33] (fun v33 wc => ∃ (kq : Nat) (x33_3 : Bool), v33 = .bool x33_3 ∧ Aside0 (cooperagelaw4_RecordShort.j0 kq a1 t317 x33_3 a0_0 a0_1 a0_2 a0_3 a0_4 = some r) ∧ Aside0 (kq ≤ k) ∧ Aside0 (wc.heap[gb316]? = some (.cells #[.int .i64 a0_0, .int .i64 a0_1, .string a0_2, .string a0_3, .bool a0_4] 25 (0, 0))) ∧ Aside0 (Below w.heap.size w wc))
  case first =>
    have H := HC4.out
    clear HC4
    by_cases c7 : t317 = true
    · subst c7
      have H1 : (if (a0_2.size : Int) > 200 then (cooperagelaw4_RecordShort.j0 k a1 true true a0_0 a0_1 a0_2 a0_3 a0_4) else (if (a0_3.size : Int) > 500 then (cooperagelaw4_RecordShort.j0 k a1 true true a0_0 a0_1 a0_2 a0_3 a0_4) else ((cooperageref1_Right.f a0_0 a0_1 a0_2 a0_3 a0_4).bind fun t318 => (if t318 = true then (cooperagelaw4_RecordShort.j0 k a1 true (decide (a1 < 0)) a0_0 a0_1 a0_2 a0_3 a0_4) else (cooperagelaw4_RecordShort.j0 k a1 true true a0_0 a0_1 a0_2 a0_3 a0_4))))) = some r := by rw [if_pos rfl] at H; exact H
      clear H
      have H := H1
      clear H1
      by_cases c8 : (a0_2.size : Int) > 200
      · rw [if_pos c8] at H
        have c8b0 : decide (200 < (a0_2.size : Int)) = true := decide_eq_true c8
        have c8b1 : decide (200 < a0_2.size) = true := decide_eq_true (by omega)
        clear c8
        (first | rw [c8b0] | (simp only [i64_w, i32_w]; rw [c8b0]) | skip)
        have H' := Aside0.mk H
        clear H
        have hcz9_0 : w6.cell? ⟨gb316, 0, none⟩ = some (.int .i64 a0_0) := (blk_cell BK316.out 0).trans rfl
        have hcz9_1 : w6.cell? ⟨gb316, 1, none⟩ = some (.int .i64 a0_1) := (blk_cell BK316.out 1).trans rfl
        have hcz9_2 : w6.cell? ⟨gb316, 2, none⟩ = some (.string a0_2) := (blk_cell BK316.out 2).trans rfl
        have hcz9_3 : w6.cell? ⟨gb316, 3, none⟩ = some (.string a0_3) := (blk_cell BK316.out 3).trans rfl
        have hcz9_4 : w6.cell? ⟨gb316, 4, none⟩ = some (.bool a0_4) := (blk_cell BK316.out 4).trans rfl
        have hfz9_0 := blk_frozen BK316.out 0
        have hfz9_1 := blk_frozen BK316.out 1
        have hfz9_2 := blk_frozen BK316.out 2
        have hfz9_3 := blk_frozen BK316.out 3
        have hfz9_4 := blk_frozen BK316.out 4
        go_wp2
        go_meet
        case rel => exact ⟨_, (true), (by first | rfl | (simp; done) | (simp [*]; done)), H', ⟨by first | omega | exact Nat.le_refl _⟩, ⟨by (with_reducible repeat (first | refine blk_drewN ?_ _ | refine blk_drew ?_ | refine blk_alloc ?_ _)); exact BK316.out⟩, ⟨by repeat (first | (with_reducible first | exact HB.out | apply below_alloc | apply pw_below_drewN | apply below_drew1 | refine below_set ?_ GE316.out) | exact HB.out)⟩⟩
      · rw [if_neg c8] at H
        have c8b0 : decide (200 < (a0_2.size : Int)) = false := decide_eq_false c8
        have c8b1 : decide (200 < a0_2.size) = false := decide_eq_false (by omega)
        clear c8
        (first | rw [c8b0] | (simp only [i64_w, i32_w]; rw [c8b0]) | skip)
        by_cases c10 : (a0_3.size : Int) > 500
        · rw [if_pos c10] at H
          have c10b0 : decide (500 < (a0_3.size : Int)) = true := decide_eq_true c10
          have c10b1 : decide (500 < a0_3.size) = true := decide_eq_true (by omega)
          clear c10
          have H' := Aside0.mk H
          clear H
          have hcz11_0 : w6.cell? ⟨gb316, 0, none⟩ = some (.int .i64 a0_0) := (blk_cell BK316.out 0).trans rfl
          have hcz11_1 : w6.cell? ⟨gb316, 1, none⟩ = some (.int .i64 a0_1) := (blk_cell BK316.out 1).trans rfl
          have hcz11_2 : w6.cell? ⟨gb316, 2, none⟩ = some (.string a0_2) := (blk_cell BK316.out 2).trans rfl
          have hcz11_3 : w6.cell? ⟨gb316, 3, none⟩ = some (.string a0_3) := (blk_cell BK316.out 3).trans rfl
          have hcz11_4 : w6.cell? ⟨gb316, 4, none⟩ = some (.bool a0_4) := (blk_cell BK316.out 4).trans rfl
          have hfz11_0 := blk_frozen BK316.out 0
          have hfz11_1 := blk_frozen BK316.out 1
          have hfz11_2 := blk_frozen BK316.out 2
          have hfz11_3 := blk_frozen BK316.out 3
          have hfz11_4 := blk_frozen BK316.out 4
          go_wp2
          go_meet
          case rel => exact ⟨_, (true), (by first | rfl | (simp; done) | (simp [*]; done)), H', ⟨by first | omega | exact Nat.le_refl _⟩, ⟨by (with_reducible repeat (first | refine blk_drewN ?_ _ | refine blk_drew ?_ | refine blk_alloc ?_ _)); exact BK316.out⟩, ⟨by repeat (first | (with_reducible first | exact HB.out | apply below_alloc | apply pw_below_drewN | apply below_drew1 | refine below_set ?_ GE316.out) | exact HB.out)⟩⟩
        · rw [if_neg c10] at H
          have c10b0 : decide (500 < (a0_3.size : Int)) = false := decide_eq_false c10
          have c10b1 : decide (500 < a0_3.size) = false := decide_eq_false (by omega)
          clear c10
          replace H := Option.bind_eq_some_iff.mp H
          obtain ⟨t318, A120, H⟩ := H
          replace H : (if t318 = true then (cooperagelaw4_RecordShort.j0 k a1 true (decide (a1 < 0)) a0_0 a0_1 a0_2 a0_3 a0_4) else (cooperagelaw4_RecordShort.j0 k a1 true true a0_0 a0_1 a0_2 a0_3 a0_4)) = some r := H
          have A12 := Aside0.mk A120
          clear A120
          by_cases c13 : t318 = true
          · subst c13
            have H1 : (cooperagelaw4_RecordShort.j0 k a1 true (decide (a1 < 0)) a0_0 a0_1 a0_2 a0_3 a0_4) = some r := by rw [if_pos rfl] at H; exact H
            clear H
            have H := H1
            clear H1
            have H' := Aside0.mk H
            clear H
            have hcz14_0 : w6.cell? ⟨gb316, 0, none⟩ = some (.int .i64 a0_0) := (blk_cell BK316.out 0).trans rfl
            have hcz14_1 : w6.cell? ⟨gb316, 1, none⟩ = some (.int .i64 a0_1) := (blk_cell BK316.out 1).trans rfl
            have hcz14_2 : w6.cell? ⟨gb316, 2, none⟩ = some (.string a0_2) := (blk_cell BK316.out 2).trans rfl
            have hcz14_3 : w6.cell? ⟨gb316, 3, none⟩ = some (.string a0_3) := (blk_cell BK316.out 3).trans rfl
            have hcz14_4 : w6.cell? ⟨gb316, 4, none⟩ = some (.bool a0_4) := (blk_cell BK316.out 4).trans rfl
            have hfz14_0 := blk_frozen BK316.out 0
            have hfz14_1 := blk_frozen BK316.out 1
            have hfz14_2 := blk_frozen BK316.out 2
            have hfz14_3 := blk_frozen BK316.out 3
            have hfz14_4 := blk_frozen BK316.out 4
            go_wp2_with (first | (go_at_call 28; (with_reducible refine (cooperageref1_Right.calls a0_0 a0_1 a0_2 a0_3 a0_4 true _ A12.out).mono ?_); rintro e w15 ⟨rfl, hb⟩; have n0_ := Aside0.mk (blk_below (g := gb316) (o := .cells #[.int .i64 a0_0, .int .i64 a0_1, .string a0_2, .string a0_3, .bool a0_4] 25 (0, 0)) (by (with_reducible repeat (first | refine blk_drewN ?_ _ | refine blk_drew ?_ | refine blk_alloc ?_ _)); exact BK316.out) hb); have n1_ := Aside0.mk (below_step (by repeat (first | (with_reducible first | exact HB.out | apply below_alloc | apply pw_below_drewN | apply below_drew1 | refine below_set ?_ GE316.out) | exact HB.out)) hb); clear BK316; clear HB; have BK316 := n0_; have HB := n1_; clear n0_ n1_; (try clear hb); (try clear hb2); (try clear hk); (try clear hi)))
            go_meet
            case rel => exact ⟨_, (decide (a1 < 0)), (by first | rfl | (simp; done) | (simp [*]; done)), H', ⟨by first | omega | exact Nat.le_refl _⟩, ⟨by (with_reducible repeat (first | refine blk_drewN ?_ _ | refine blk_drew ?_ | refine blk_alloc ?_ _)); exact BK316.out⟩, ⟨by repeat (first | (with_reducible first | exact HB.out | apply below_alloc | apply pw_below_drewN | apply below_drew1 | refine below_set ?_ GE316.out) | exact HB.out)⟩⟩
          · replace c13 := Bool.eq_false_iff.mpr c13
            subst c13
            have H1 : (cooperagelaw4_RecordShort.j0 k a1 true true a0_0 a0_1 a0_2 a0_3 a0_4) = some r := by rw [if_neg (show ¬ (false = true) by decide)] at H; exact H
            clear H
            have H := H1
            clear H1
            have H' := Aside0.mk H
            clear H
            have hcz16_0 : w6.cell? ⟨gb316, 0, none⟩ = some (.int .i64 a0_0) := (blk_cell BK316.out 0).trans rfl
            have hcz16_1 : w6.cell? ⟨gb316, 1, none⟩ = some (.int .i64 a0_1) := (blk_cell BK316.out 1).trans rfl
            have hcz16_2 : w6.cell? ⟨gb316, 2, none⟩ = some (.string a0_2) := (blk_cell BK316.out 2).trans rfl
            have hcz16_3 : w6.cell? ⟨gb316, 3, none⟩ = some (.string a0_3) := (blk_cell BK316.out 3).trans rfl
            have hcz16_4 : w6.cell? ⟨gb316, 4, none⟩ = some (.bool a0_4) := (blk_cell BK316.out 4).trans rfl
            have hfz16_0 := blk_frozen BK316.out 0
            have hfz16_1 := blk_frozen BK316.out 1
            have hfz16_2 := blk_frozen BK316.out 2
            have hfz16_3 := blk_frozen BK316.out 3
            have hfz16_4 := blk_frozen BK316.out 4
            go_wp2_with (first | (go_at_call 28; (with_reducible refine (cooperageref1_Right.calls a0_0 a0_1 a0_2 a0_3 a0_4 false _ A12.out).mono ?_); rintro e w17 ⟨rfl, hb⟩; have n0_ := Aside0.mk (blk_below (g := gb316) (o := .cells #[.int .i64 a0_0, .int .i64 a0_1, .string a0_2, .string a0_3, .bool a0_4] 25 (0, 0)) (by (with_reducible repeat (first | refine blk_drewN ?_ _ | refine blk_drew ?_ | refine blk_alloc ?_ _)); exact BK316.out) hb); have n1_ := Aside0.mk (below_step (by repeat (first | (with_reducible first | exact HB.out | apply below_alloc | apply pw_below_drewN | apply below_drew1 | refine below_set ?_ GE316.out) | exact HB.out)) hb); clear BK316; clear HB; have BK316 := n0_; have HB := n1_; clear n0_ n1_; (try clear hb); (try clear hb2); (try clear hk); (try clear hi)))
            go_meet
            case rel => exact ⟨_, (true), (by first | rfl | (simp; done) | (simp [*]; done)), H', ⟨by first | omega | exact Nat.le_refl _⟩, ⟨by (with_reducible repeat (first | refine blk_drewN ?_ _ | refine blk_drew ?_ | refine blk_alloc ?_ _)); exact BK316.out⟩, ⟨by repeat (first | (with_reducible first | exact HB.out | apply below_alloc | apply pw_below_drewN | apply below_drew1 | refine below_set ?_ GE316.out) | exact HB.out)⟩⟩
    · replace c7 := Bool.eq_false_iff.mpr c7
      subst c7
      have H1 : (cooperagelaw4_RecordShort.j0 k a1 false true a0_0 a0_1 a0_2 a0_3 a0_4) = some r := by rw [if_neg (show ¬ (false = true) by decide)] at H; exact H
      clear H
      have H := H1
      clear H1
      have H' := Aside0.mk H
      clear H
      go_wp2
      go_meet
      case rel => exact ⟨_, (true), (by first | rfl | (simp; done) | (simp [*]; done)), H', ⟨by first | omega | exact Nat.le_refl _⟩, ⟨by (with_reducible repeat (first | refine blk_drewN ?_ _ | refine blk_drew ?_ | refine blk_alloc ?_ _)); exact BK316.out⟩, ⟨by repeat (first | (with_reducible first | exact HB.out | apply below_alloc | apply pw_below_drewN | apply below_drew1 | refine below_set ?_ GE316.out) | exact HB.out)⟩⟩
  case rest =>
    clear HC4
    try clear c1
    try clear p2
    try clear c7
    try clear c8
    try clear c8b0
    try clear c8b1
    try clear c9
    try clear c10
    try clear c10b0
    try clear c10b1
    try clear c12
    try clear c13
    try clear hcz11_0
    try clear hcz11_1
    try clear hcz11_2
    try clear hcz11_3
    try clear hcz11_4
    try clear hcz14_0
    try clear hcz14_1
    try clear hcz14_2
    try clear hcz14_3
    try clear hcz14_4
    try clear hcz16_0
    try clear hcz16_1
    try clear hcz16_2
    try clear hcz16_3
    try clear hcz16_4
    try clear hcz9_0
    try clear hcz9_1
    try clear hcz9_2
    try clear hcz9_3
    try clear hcz9_4
    try clear hfz11_0
    try clear hfz11_1
    try clear hfz11_2
    try clear hfz11_3
    try clear hfz11_4
    try clear hfz14_0
    try clear hfz14_1
    try clear hfz14_2
    try clear hfz14_3
    try clear hfz14_4
    try clear hfz16_0
    try clear hfz16_1
    try clear hfz16_2
    try clear hfz16_3
    try clear hfz16_4
    try clear hfz9_0
    try clear hfz9_1
    try clear hfz9_2
    try clear hfz9_3
    try clear hfz9_4
    obtain ⟨kq, x33_3, rfl, HA, HJ3, BK316, HB⟩ := hcut
    cases kq with
    | zero => exact absurd HA.out (by simp [cooperagelaw4_RecordShort.j0])
    | succ kj3 =>
      have H := HA.out
      clear HA
      simp only [cooperagelaw4_RecordShort.j0] at H
      by_cases c18 : x33_3 = true
      · subst c18
        have H1 : (some t317) = some r := by rw [if_pos rfl] at H; exact H
        clear H
        have H := H1
        clear H1
        obtain rfl := Option.some.inj H
        go_wp2
        go_ret
        exact ⟨by first | rfl | (simp [errW_none, errW_some] <;> rfl) | (simp [*, errW_none, errW_some] <;> rfl) | (simp [errW_none, errW_some]; generalize ByteArray.toList _ = l_; cases l_ <;> rfl), by repeat (first | (with_reducible first | exact HB.out | apply below_alloc | apply pw_below_drewN | apply below_drew1 | refine below_set ?_ GE316.out) | exact HB.out)⟩
      · replace c18 := Bool.eq_false_iff.mpr c18
        subst c18
        have H1 : ((cooperageref1_PutRecord.f kj3 ([] : List Int) a0_0 a0_1 a0_2 a0_3 a0_4).bind fun t319 => (if (t319.length : Int) = 0 then (none) else (if 0 ≤ (Int.tmod a1 (t319.length : Int)) then (if (Int.tmod a1 (t319.length : Int)) ≤ (t319.length : Int) then ((record_Get.f kj3 (t319.take ((Int.tmod a1 (t319.length : Int)) : Int).toNat)).bind fun bt326 => ((cooperagelaw4_num.f bt326.2.2.2.2.2.2).bind fun t334 => (if t334 = 4 then (if bt326.2.2.2.2.2.1 = 0 then (some (bt326.1 == 0 && (bt326.2.1 == 0 && (bt326.2.2.1.toList == ([] : List UInt8) && (bt326.2.2.2.1.toList == ([] : List UInt8) && (!bt326.2.2.2.2.1)))))) else (some false)) else (some false)))) else (none)) else (none)))) = some r := by rw [if_neg (show ¬ (false = true) by decide)] at H; exact H
        clear H
        have H := H1
        clear H1
        replace H := Option.bind_eq_some_iff.mp H
        obtain ⟨t319, A190, H⟩ := H
        replace H : (if (t319.length : Int) = 0 then (none) else (if 0 ≤ (Int.tmod a1 (t319.length : Int)) then (if (Int.tmod a1 (t319.length : Int)) ≤ (t319.length : Int) then ((record_Get.f kj3 (t319.take ((Int.tmod a1 (t319.length : Int)) : Int).toNat)).bind fun bt326 => ((cooperagelaw4_num.f bt326.2.2.2.2.2.2).bind fun t334 => (if t334 = 4 then (if bt326.2.2.2.2.2.1 = 0 then (some (bt326.1 == 0 && (bt326.2.1 == 0 && (bt326.2.2.1.toList == ([] : List UInt8) && (bt326.2.2.2.1.toList == ([] : List UInt8) && (!bt326.2.2.2.2.1)))))) else (some false)) else (some false)))) else (none)) else (none))) = some r := H
        have A19 := Aside0.mk A190
        clear A190
        by_cases c20 : (t319.length : Int) = 0
        · rw [if_pos c20] at H
          exact absurd H (by simp)
        · rw [if_neg c20] at H
          have c20b0 : ((t319.length : Int) == 0) = false := beq_eq_false_iff_ne.mpr c20
          have c20b1 : ((t319.length : Int) != 0) = true := bne_iff_ne.mpr c20
          have c20b2 : ¬ (t319 = []) := fun h_ => c20 (by rw [h_]; rfl)
          obtain ⟨ji21, hji21⟩ : ∃ j_ : Int, (Int.tmod a1 (t319.length : Int)) = j_ := ⟨_, rfl⟩
          replace H : (if 0 ≤ (ji21) then (if (ji21) ≤ (t319.length : Int) then ((record_Get.f kj3 (t319.take ((ji21) : Int).toNat)).bind fun bt326 => ((cooperagelaw4_num.f bt326.2.2.2.2.2.2).bind fun t334 => (if t334 = 4 then (if bt326.2.2.2.2.2.1 = 0 then (some (bt326.1 == 0 && (bt326.2.1 == 0 && (bt326.2.2.1.toList == ([] : List UInt8) && (bt326.2.2.2.1.toList == ([] : List UInt8) && (!bt326.2.2.2.2.1)))))) else (some false)) else (some false)))) else (none)) else (none)) = some r := by first | (rw [hji21] at H; exact H) | (simp only [hji21] at H ⊢; exact H)
          (try rw [hji21] at A19)
          by_cases c22 : 0 ≤ (ji21)
          · rw [if_pos c22] at H
            have c22b0 := eq_true c22
            have c22b1 : decide (0 ≤ (ji21)) = true := decide_eq_true c22
            clear c22
            by_cases c23 : (ji21) ≤ (t319.length : Int)
            · rw [if_pos c23] at H
              have c23b0 := eq_true c23
              have c23b1 : decide ((ji21) ≤ (t319.length : Int)) = true := decide_eq_true c23
              clear c23
              obtain ⟨y322, hy322⟩ : ∃ y_ : List Int, y_ = (t319.take ((ji21) : Int).toNat) := ⟨_, rfl⟩
              replace H : ((record_Get.f kj3 y322).bind fun bt326 => ((cooperagelaw4_num.f bt326.2.2.2.2.2.2).bind fun t334 => (if t334 = 4 then (if bt326.2.2.2.2.2.1 = 0 then (some (bt326.1 == 0 && (bt326.2.1 == 0 && (bt326.2.2.1.toList == ([] : List UInt8) && (bt326.2.2.2.1.toList == ([] : List UInt8) && (!bt326.2.2.2.2.1)))))) else (some false)) else (some false)))) = some r := by first | (rw [hy322]; with_reducible exact H) | (have H2_ := (Option.bind_some _ _).symm.trans H; rw [hy322]; with_reducible exact H2_) | (have H2_ := (Option.bind_some _ _).symm.trans H; with_reducible exact H2_) | with_reducible exact H | (rw [hy322]; exact H) | exact H
              have Ny322 := Aside0.mk hy322
              clear hy322
              replace H := Option.bind_eq_some_iff.mp H
              obtain ⟨⟨t326, t327, t328, t329, t330, t331, t332⟩, A240, H⟩ := H
              replace H : ((cooperagelaw4_num.f t332).bind fun t334 => (if t334 = 4 then (if t331 = 0 then (some (t326 == 0 && (t327 == 0 && (t328.toList == ([] : List UInt8) && (t329.toList == ([] : List UInt8) && (!t330)))))) else (some false)) else (some false))) = some r := H
              have A24 := Aside0.mk A240
              clear A240
              replace H := Option.bind_eq_some_iff.mp H
              obtain ⟨t334, A250, H⟩ := H
              replace H : (if t334 = 4 then (if t331 = 0 then (some (t326 == 0 && (t327 == 0 && (t328.toList == ([] : List UInt8) && (t329.toList == ([] : List UInt8) && (!t330)))))) else (some false)) else (some false)) = some r := H
              have A25 := Aside0.mk A250
              clear A250
              by_cases c26 : t334 = 4
              · rw [if_pos c26] at H
                have c26b0 : (t334 == 4) = true := beq_iff_eq.mpr c26
                have c26b1 : (t334 != 4) = false := bne_eq_false_iff_eq.mpr c26
                clear c26
                by_cases c27 : t331 = 0
                · rw [if_pos c27] at H
                  have c27b0 : (t331 == 0) = true := beq_iff_eq.mpr c27
                  have c27b1 : (t331 != 0) = false := bne_eq_false_iff_eq.mpr c27
                  clear c27
                  obtain rfl := Option.some.inj H
                  have hcz28_0 : wc.cell? ⟨gb316, 0, none⟩ = some (.int .i64 a0_0) := (blk_cell BK316.out 0).trans rfl
                  have hcz28_1 : wc.cell? ⟨gb316, 1, none⟩ = some (.int .i64 a0_1) := (blk_cell BK316.out 1).trans rfl
                  have hcz28_2 : wc.cell? ⟨gb316, 2, none⟩ = some (.string a0_2) := (blk_cell BK316.out 2).trans rfl
                  have hcz28_3 : wc.cell? ⟨gb316, 3, none⟩ = some (.string a0_3) := (blk_cell BK316.out 3).trans rfl
                  have hcz28_4 : wc.cell? ⟨gb316, 4, none⟩ = some (.bool a0_4) := (blk_cell BK316.out 4).trans rfl
                  have hfz28_0 := blk_frozen BK316.out 0
                  have hfz28_1 := blk_frozen BK316.out 1
                  have hfz28_2 := blk_frozen BK316.out 2
                  have hfz28_3 := blk_frozen BK316.out 3
                  have hfz28_4 := blk_frozen BK316.out 4
                  go_wp2_with (first | ((with_reducible refine gate_callee (f := 29) rfl ?_); refine goesL_ (some 36) rfl rfl Try.func29 (by kernel_rfl) rfl #[.slice none 0 0, .agg #[.int .i64 a0_0, .int .i64 a0_1, .string a0_2, .string a0_3, .bool a0_4]] rfl (by (try simp only [List.map_toArray, List.map_cons, List.map_nil]); first | done | rfl | (simp only [List.length_drop, List.length_take]; rfl)) ?_; (refine (cooperageref1_PutRecord.calls kj3 _ _ ([] : List Int) a0_0 a0_1 a0_2 a0_3 a0_4 t319 _ ?side1 ?side2 A19.out).mono ?_); (case side1 => exact Kd.C_nil _ _); (case side2 => exact Nat.le_refl _); rintro e w29 ⟨v320, rfl, ho0, hb⟩; refine ⟨_, rfl, ?_⟩; have n0_ := Aside0.mk (Kd.R_lower ho0 (below_size (by repeat (first | (with_reducible first | exact HB.out | apply below_alloc | apply pw_below_drewN | apply below_drew1 | refine below_set ?_ GE316.out) | exact HB.out)))); have n1_ := Aside0.mk (blk_below (g := gb316) (o := .cells #[.int .i64 a0_0, .int .i64 a0_1, .string a0_2, .string a0_3, .bool a0_4] 25 (0, 0)) (by (with_reducible repeat (first | refine blk_drewN ?_ _ | refine blk_drew ?_ | refine blk_alloc ?_ _)); exact BK316.out) hb); have n2_ := Aside0.mk (below_step (by repeat (first | (with_reducible first | exact HB.out | apply below_alloc | apply pw_below_drewN | apply below_drew1 | refine below_set ?_ GE316.out) | exact HB.out)) hb); clear BK316; clear HB; have HO321 := n0_; have BK316 := n1_; have HB := n2_; clear n0_ n1_ n2_; (try clear hb); (try clear hb2); (try clear hk); (try clear hi); (try clear ho0); obtain ⟨Ao30, co30, eo30⟩ := Kd.R_slice HO321.out; subst eo30; have q31 : ((ji21) : Int) ≤ ((t319.length : Int) : Int) := of_decide_eq_true (by first | (with_reducible assumption) | assumption); obtain ⟨i031, hi031, _, hsz31, _⟩ := info_parts info5; have hroom31 : t319.length ≤ co30 := (Kd.R_reads' HO321.out).2.1; have hC31 : Kd.C (Kd.int .u8) _ Ao30 t319.length t319 := (Kd.R_reads' HO321.out).2.2; have hcut31 := cut_to (P := Try.prog) 30 5 .i64 Try.underlying30 hi031 Ao30 t319.length co30 (ji21) (of_decide_eq_true (by first | (with_reducible assumption) | assumption)) q31 hroom31; have hr31 := Kd.C_take (m := ((ji21) : Int).toNat) hC31 (by omega); have hy31 : y322.length = ((ji21) : Int).toNat := (by rw [Ny322.out, List.length_take]; omega); rw [← Ny322.out] at hr31; rw [← hy31] at hcut31; have HR325 := Aside0.mk hr31; have HC325 := Aside0.mk (show y322.length ≤ co30 from by omega); clear hr31 hC31 hroom31 hi031 hsz31; have KY31 := Aside0.mk hy31; clear hy31; have KL31 := Aside0.mk (show ((ji21) : Int).toNat ≤ t319.length from by omega); replace q31 := eq_true q31) | ((with_reducible refine gate_callee (f := 25) rfl ?_); refine goesL_ (some 44) rfl rfl Try.func25 (by kernel_rfl) rfl #[.slice Ao30 y322.length co30] rfl (by (try simp only [List.map_toArray, List.map_cons, List.map_nil]); first | done | rfl | (simp only [List.length_drop, List.length_take]; rfl)) ?_; (with_reducible refine (record_Get.calls kj3 _ _ y322 t326 t327 t328 t329 t330 t331 t332 _ ?side1 ?side2 A24.out).mono ?_); (case side1 => repeat (first | exact (by repeat (first | (with_reducible exact HR325.out) | (with_reducible refine Kd.C_alloc ?_ _) | (with_reducible refine Kd.C_drewN ?_ _) | (with_reducible refine Kd.C_drew ?_) | exact HR325.out)) | (with_reducible refine Kd.C_alloc ?_ _) | (with_reducible refine Kd.C_drewN ?_ _) | (with_reducible refine Kd.C_drew ?_))); (case side2 => exact HC325.out); rintro e w32 ⟨rfl, hb⟩; refine ⟨_, rfl, ?_⟩; have n0_ := Aside0.mk (Kd.R_below (by (with_reducible repeat (first | apply Kd.R_alloc | apply Kd.R_drewN | apply Kd.R_drew)); exact HO321.out) hb); have n1_ := Aside0.mk (blk_below (g := gb316) (o := .cells #[.int .i64 a0_0, .int .i64 a0_1, .string a0_2, .string a0_3, .bool a0_4] 25 (0, 0)) (by (with_reducible repeat (first | refine blk_drewN ?_ _ | refine blk_drew ?_ | refine blk_alloc ?_ _)); exact BK316.out) hb); have n2_ := Aside0.mk (Kd.C_below (by repeat (first | (with_reducible exact HR325.out) | (with_reducible refine Kd.C_alloc ?_ _) | (with_reducible refine Kd.C_drewN ?_ _) | (with_reducible refine Kd.C_drew ?_) | exact HR325.out)) hb); have n3_ := Aside0.mk (below_step (by repeat (first | (with_reducible first | exact HB.out | apply below_alloc | apply pw_below_drewN | apply below_drew1 | refine below_set ?_ GE316.out) | exact HB.out)) hb); clear HO321; clear BK316; clear HR325; clear HB; have HO321 := n0_; have BK316 := n1_; have HR325 := n2_; have HB := n3_; clear n0_ n1_ n2_ n3_; (try clear hb); (try clear hb2); (try clear hk); (try clear hi)) | ((with_reducible refine gate_dst (N := 7) rfl ?_); (try (refine gate_guard (by rfl) ?_; dsimp only)); refine box_event ?hg (N := 7) ?hd (cs := #[.int .i64 0, .int .i64 0, .string (⟨#[]⟩ : ByteArray), .string (⟨#[]⟩ : ByteArray), .bool false]) (t := 25) ?hr ?_; (case hd => rfl); (case hg => rfl); (case hr => first | (go_simp; done) | (go_simp; rfl)); intro gb333 hg w33 hbox hb; have n0_ := Aside0.mk (Kd.R_below (by (with_reducible repeat (first | apply Kd.R_alloc | apply Kd.R_drewN | apply Kd.R_drew)); exact HO321.out) hb); have n1_ := Aside0.mk (blk_below (g := gb316) (o := .cells #[.int .i64 a0_0, .int .i64 a0_1, .string a0_2, .string a0_3, .bool a0_4] 25 (0, 0)) (by (with_reducible repeat (first | refine blk_drewN ?_ _ | refine blk_drew ?_ | refine blk_alloc ?_ _)); exact BK316.out) hb); have n2_ := Aside0.mk (Kd.C_below (by repeat (first | (with_reducible exact HR325.out) | (with_reducible refine Kd.C_alloc ?_ _) | (with_reducible refine Kd.C_drewN ?_ _) | (with_reducible refine Kd.C_drew ?_) | exact HR325.out)) hb); have n3_ := Aside0.mk (below_step (by repeat (first | (with_reducible first | exact HB.out | apply below_alloc | apply pw_below_drewN | apply below_drew1 | refine below_set ?_ GE316.out) | exact HB.out)) hb); have n4_ := Aside0.mk (hbox); have n5_ := Aside0.mk ((by rw [hg]; exact (below_size (by repeat (first | (with_reducible first | exact HB.out | apply below_alloc | apply pw_below_drewN | apply below_drew1 | refine below_set ?_ GE316.out) | exact HB.out))) : w.heap.size ≤ gb333)); have n6_ := Aside0.mk ((by rw [hg]; exact (below_size (by repeat (first | (with_reducible first | exact HB.out | apply below_alloc | apply pw_below_drewN | apply below_drew1 | refine below_set ?_ GE316.out) | exact HB.out))) : w.heap.size ≤ gb333)); have n7_ := Aside0.mk ((by rw [hg]; exact Nat.ne_of_lt (blk_lt (g := gb316) (o := .cells #[.int .i64 a0_0, .int .i64 a0_1, .string a0_2, .string a0_3, .bool a0_4] 25 (0, 0)) (by (with_reducible repeat (first | refine blk_drewN ?_ _ | refine blk_drew ?_ | refine blk_alloc ?_ _)); exact BK316.out)) : gb316 ≠ gb333)); have n8_ := Aside0.mk ((by rw [hg]; exact Nat.ne_of_gt (blk_lt (g := gb316) (o := .cells #[.int .i64 a0_0, .int .i64 a0_1, .string a0_2, .string a0_3, .bool a0_4] 25 (0, 0)) (by (with_reducible repeat (first | refine blk_drewN ?_ _ | refine blk_drew ?_ | refine blk_alloc ?_ _)); exact BK316.out)) : gb333 ≠ gb316)); clear HO321; clear BK316; clear HR325; clear HB; have HO321 := n0_; have BK316 := n1_; have HR325 := n2_; have HB := n3_; have BK333 := n4_; have GW333 := n5_; have GE333 := n6_; have NB316_333 := n7_; have NB333_316 := n8_; clear n0_ n1_ n2_ n3_ n4_ n5_ n6_ n7_ n8_; clear hb hbox hg; have hnb34 := NB333_316.out; have hnc34 := NB316_333.out; have hcz35_0 : w33.cell? ⟨gb333, 0, none⟩ = some (.int .i64 0) := (blk_cell BK333.out 0).trans rfl; have hcz35_1 : w33.cell? ⟨gb333, 1, none⟩ = some (.int .i64 0) := (blk_cell BK333.out 1).trans rfl; have hcz35_2 : w33.cell? ⟨gb333, 2, none⟩ = some (.string (⟨#[]⟩ : ByteArray)) := (blk_cell BK333.out 2).trans rfl; have hcz35_3 : w33.cell? ⟨gb333, 3, none⟩ = some (.string (⟨#[]⟩ : ByteArray)) := (blk_cell BK333.out 3).trans rfl; have hcz35_4 : w33.cell? ⟨gb333, 4, none⟩ = some (.bool false) := (blk_cell BK333.out 4).trans rfl; have hfz35_0 := blk_frozen BK333.out 0; have hfz35_1 := blk_frozen BK333.out 1; have hfz35_2 := blk_frozen BK333.out 2; have hfz35_3 := blk_frozen BK333.out 3; have hfz35_4 := blk_frozen BK333.out 4) | ((with_reducible refine gate_callee (f := 27) rfl ?_); refine goesL_ (some 49) rfl rfl Try.func27 (by kernel_rfl) rfl #[.int .i64 t332] rfl (by (try simp only [List.map_toArray, List.map_cons, List.map_nil]); first | done | rfl | (simp only [List.length_drop, List.length_take]; rfl)) ?_; (with_reducible refine (cooperagelaw4_num.calls t332 t334 _ A25.out).mono ?_); rintro e w' ⟨rfl, ⟨nd, rfl⟩⟩; refine ⟨_, rfl, ?_⟩))
                  go_ret
                  exact ⟨by first | rfl | (simp [errW_none, errW_some] <;> rfl) | (simp only [← hji21]; first | rfl | (simp [errW_none, errW_some] <;> rfl)) | (simp [*, errW_none, errW_some] <;> rfl) | (simp [errW_none, errW_some]; generalize ByteArray.toList _ = l_; cases l_ <;> rfl), by repeat (first | (with_reducible first | exact HB.out | apply below_alloc | apply pw_below_drewN | apply below_drew1 | refine below_set ?_ GE316.out | refine below_set ?_ GE333.out) | exact HB.out)⟩
                · rw [if_neg c27] at H
                  have c27b0 : (t331 == 0) = false := beq_eq_false_iff_ne.mpr c27
                  have c27b1 : (t331 != 0) = true := bne_iff_ne.mpr c27
                  obtain rfl := Option.some.inj H
                  have hcz36_0 : wc.cell? ⟨gb316, 0, none⟩ = some (.int .i64 a0_0) := (blk_cell BK316.out 0).trans rfl
                  have hcz36_1 : wc.cell? ⟨gb316, 1, none⟩ = some (.int .i64 a0_1) := (blk_cell BK316.out 1).trans rfl
                  have hcz36_2 : wc.cell? ⟨gb316, 2, none⟩ = some (.string a0_2) := (blk_cell BK316.out 2).trans rfl
                  have hcz36_3 : wc.cell? ⟨gb316, 3, none⟩ = some (.string a0_3) := (blk_cell BK316.out 3).trans rfl
                  have hcz36_4 : wc.cell? ⟨gb316, 4, none⟩ = some (.bool a0_4) := (blk_cell BK316.out 4).trans rfl
                  have hfz36_0 := blk_frozen BK316.out 0
                  have hfz36_1 := blk_frozen BK316.out 1
                  have hfz36_2 := blk_frozen BK316.out 2
                  have hfz36_3 := blk_frozen BK316.out 3
                  have hfz36_4 := blk_frozen BK316.out 4
                  go_wp2_with (first | ((with_reducible refine gate_callee (f := 29) rfl ?_); refine goesL_ (some 36) rfl rfl Try.func29 (by kernel_rfl) rfl #[.slice none 0 0, .agg #[.int .i64 a0_0, .int .i64 a0_1, .string a0_2, .string a0_3, .bool a0_4]] rfl (by (try simp only [List.map_toArray, List.map_cons, List.map_nil]); first | done | rfl | (simp only [List.length_drop, List.length_take]; rfl)) ?_; (refine (cooperageref1_PutRecord.calls kj3 _ _ ([] : List Int) a0_0 a0_1 a0_2 a0_3 a0_4 t319 _ ?side1 ?side2 A19.out).mono ?_); (case side1 => exact Kd.C_nil _ _); (case side2 => exact Nat.le_refl _); rintro e w37 ⟨v320, rfl, ho0, hb⟩; refine ⟨_, rfl, ?_⟩; have n0_ := Aside0.mk (Kd.R_lower ho0 (below_size (by repeat (first | (with_reducible first | exact HB.out | apply below_alloc | apply pw_below_drewN | apply below_drew1 | refine below_set ?_ GE316.out) | exact HB.out)))); have n1_ := Aside0.mk (blk_below (g := gb316) (o := .cells #[.int .i64 a0_0, .int .i64 a0_1, .string a0_2, .string a0_3, .bool a0_4] 25 (0, 0)) (by (with_reducible repeat (first | refine blk_drewN ?_ _ | refine blk_drew ?_ | refine blk_alloc ?_ _)); exact BK316.out) hb); have n2_ := Aside0.mk (below_step (by repeat (first | (with_reducible first | exact HB.out | apply below_alloc | apply pw_below_drewN | apply below_drew1 | refine below_set ?_ GE316.out) | exact HB.out)) hb); clear BK316; clear HB; have HO321 := n0_; have BK316 := n1_; have HB := n2_; clear n0_ n1_ n2_; (try clear hb); (try clear hb2); (try clear hk); (try clear hi); (try clear ho0); obtain ⟨Ao38, co38, eo38⟩ := Kd.R_slice HO321.out; subst eo38; have q39 : ((ji21) : Int) ≤ ((t319.length : Int) : Int) := of_decide_eq_true (by first | (with_reducible assumption) | assumption); obtain ⟨i039, hi039, _, hsz39, _⟩ := info_parts info5; have hroom39 : t319.length ≤ co38 := (Kd.R_reads' HO321.out).2.1; have hC39 : Kd.C (Kd.int .u8) _ Ao38 t319.length t319 := (Kd.R_reads' HO321.out).2.2; have hcut39 := cut_to (P := Try.prog) 30 5 .i64 Try.underlying30 hi039 Ao38 t319.length co38 (ji21) (of_decide_eq_true (by first | (with_reducible assumption) | assumption)) q39 hroom39; have hr39 := Kd.C_take (m := ((ji21) : Int).toNat) hC39 (by omega); have hy39 : y322.length = ((ji21) : Int).toNat := (by rw [Ny322.out, List.length_take]; omega); rw [← Ny322.out] at hr39; rw [← hy39] at hcut39; have HR325 := Aside0.mk hr39; have HC325 := Aside0.mk (show y322.length ≤ co38 from by omega); clear hr39 hC39 hroom39 hi039 hsz39; have KY39 := Aside0.mk hy39; clear hy39; have KL39 := Aside0.mk (show ((ji21) : Int).toNat ≤ t319.length from by omega); replace q39 := eq_true q39) | ((with_reducible refine gate_callee (f := 25) rfl ?_); refine goesL_ (some 44) rfl rfl Try.func25 (by kernel_rfl) rfl #[.slice Ao38 y322.length co38] rfl (by (try simp only [List.map_toArray, List.map_cons, List.map_nil]); first | done | rfl | (simp only [List.length_drop, List.length_take]; rfl)) ?_; (with_reducible refine (record_Get.calls kj3 _ _ y322 t326 t327 t328 t329 t330 t331 t332 _ ?side1 ?side2 A24.out).mono ?_); (case side1 => repeat (first | exact (by repeat (first | (with_reducible exact HR325.out) | (with_reducible refine Kd.C_alloc ?_ _) | (with_reducible refine Kd.C_drewN ?_ _) | (with_reducible refine Kd.C_drew ?_) | exact HR325.out)) | (with_reducible refine Kd.C_alloc ?_ _) | (with_reducible refine Kd.C_drewN ?_ _) | (with_reducible refine Kd.C_drew ?_))); (case side2 => exact HC325.out); rintro e w40 ⟨rfl, hb⟩; refine ⟨_, rfl, ?_⟩; have n0_ := Aside0.mk (Kd.R_below (by (with_reducible repeat (first | apply Kd.R_alloc | apply Kd.R_drewN | apply Kd.R_drew)); exact HO321.out) hb); have n1_ := Aside0.mk (blk_below (g := gb316) (o := .cells #[.int .i64 a0_0, .int .i64 a0_1, .string a0_2, .string a0_3, .bool a0_4] 25 (0, 0)) (by (with_reducible repeat (first | refine blk_drewN ?_ _ | refine blk_drew ?_ | refine blk_alloc ?_ _)); exact BK316.out) hb); have n2_ := Aside0.mk (Kd.C_below (by repeat (first | (with_reducible exact HR325.out) | (with_reducible refine Kd.C_alloc ?_ _) | (with_reducible refine Kd.C_drewN ?_ _) | (with_reducible refine Kd.C_drew ?_) | exact HR325.out)) hb); have n3_ := Aside0.mk (below_step (by repeat (first | (with_reducible first | exact HB.out | apply below_alloc | apply pw_below_drewN | apply below_drew1 | refine below_set ?_ GE316.out) | exact HB.out)) hb); clear HO321; clear BK316; clear HR325; clear HB; have HO321 := n0_; have BK316 := n1_; have HR325 := n2_; have HB := n3_; clear n0_ n1_ n2_ n3_; (try clear hb); (try clear hb2); (try clear hk); (try clear hi)) | ((with_reducible refine gate_dst (N := 7) rfl ?_); (try (refine gate_guard (by rfl) ?_; dsimp only)); refine box_event ?hg (N := 7) ?hd (cs := #[.int .i64 0, .int .i64 0, .string (⟨#[]⟩ : ByteArray), .string (⟨#[]⟩ : ByteArray), .bool false]) (t := 25) ?hr ?_; (case hd => rfl); (case hg => rfl); (case hr => first | (go_simp; done) | (go_simp; rfl)); intro gb333 hg w41 hbox hb; have n0_ := Aside0.mk (Kd.R_below (by (with_reducible repeat (first | apply Kd.R_alloc | apply Kd.R_drewN | apply Kd.R_drew)); exact HO321.out) hb); have n1_ := Aside0.mk (blk_below (g := gb316) (o := .cells #[.int .i64 a0_0, .int .i64 a0_1, .string a0_2, .string a0_3, .bool a0_4] 25 (0, 0)) (by (with_reducible repeat (first | refine blk_drewN ?_ _ | refine blk_drew ?_ | refine blk_alloc ?_ _)); exact BK316.out) hb); have n2_ := Aside0.mk (Kd.C_below (by repeat (first | (with_reducible exact HR325.out) | (with_reducible refine Kd.C_alloc ?_ _) | (with_reducible refine Kd.C_drewN ?_ _) | (with_reducible refine Kd.C_drew ?_) | exact HR325.out)) hb); have n3_ := Aside0.mk (below_step (by repeat (first | (with_reducible first | exact HB.out | apply below_alloc | apply pw_below_drewN | apply below_drew1 | refine below_set ?_ GE316.out) | exact HB.out)) hb); have n4_ := Aside0.mk (hbox); have n5_ := Aside0.mk ((by rw [hg]; exact (below_size (by repeat (first | (with_reducible first | exact HB.out | apply below_alloc | apply pw_below_drewN | apply below_drew1 | refine below_set ?_ GE316.out) | exact HB.out))) : w.heap.size ≤ gb333)); have n6_ := Aside0.mk ((by rw [hg]; exact (below_size (by repeat (first | (with_reducible first | exact HB.out | apply below_alloc | apply pw_below_drewN | apply below_drew1 | refine below_set ?_ GE316.out) | exact HB.out))) : w.heap.size ≤ gb333)); have n7_ := Aside0.mk ((by rw [hg]; exact Nat.ne_of_lt (blk_lt (g := gb316) (o := .cells #[.int .i64 a0_0, .int .i64 a0_1, .string a0_2, .string a0_3, .bool a0_4] 25 (0, 0)) (by (with_reducible repeat (first | refine blk_drewN ?_ _ | refine blk_drew ?_ | refine blk_alloc ?_ _)); exact BK316.out)) : gb316 ≠ gb333)); have n8_ := Aside0.mk ((by rw [hg]; exact Nat.ne_of_gt (blk_lt (g := gb316) (o := .cells #[.int .i64 a0_0, .int .i64 a0_1, .string a0_2, .string a0_3, .bool a0_4] 25 (0, 0)) (by (with_reducible repeat (first | refine blk_drewN ?_ _ | refine blk_drew ?_ | refine blk_alloc ?_ _)); exact BK316.out)) : gb333 ≠ gb316)); clear HO321; clear BK316; clear HR325; clear HB; have HO321 := n0_; have BK316 := n1_; have HR325 := n2_; have HB := n3_; have BK333 := n4_; have GW333 := n5_; have GE333 := n6_; have NB316_333 := n7_; have NB333_316 := n8_; clear n0_ n1_ n2_ n3_ n4_ n5_ n6_ n7_ n8_; clear hb hbox hg; have hnb42 := NB333_316.out; have hnc42 := NB316_333.out; have hcz43_0 : w41.cell? ⟨gb333, 0, none⟩ = some (.int .i64 0) := (blk_cell BK333.out 0).trans rfl; have hcz43_1 : w41.cell? ⟨gb333, 1, none⟩ = some (.int .i64 0) := (blk_cell BK333.out 1).trans rfl; have hcz43_2 : w41.cell? ⟨gb333, 2, none⟩ = some (.string (⟨#[]⟩ : ByteArray)) := (blk_cell BK333.out 2).trans rfl; have hcz43_3 : w41.cell? ⟨gb333, 3, none⟩ = some (.string (⟨#[]⟩ : ByteArray)) := (blk_cell BK333.out 3).trans rfl; have hcz43_4 : w41.cell? ⟨gb333, 4, none⟩ = some (.bool false) := (blk_cell BK333.out 4).trans rfl; have hfz43_0 := blk_frozen BK333.out 0; have hfz43_1 := blk_frozen BK333.out 1; have hfz43_2 := blk_frozen BK333.out 2; have hfz43_3 := blk_frozen BK333.out 3; have hfz43_4 := blk_frozen BK333.out 4) | ((with_reducible refine gate_callee (f := 27) rfl ?_); refine goesL_ (some 49) rfl rfl Try.func27 (by kernel_rfl) rfl #[.int .i64 t332] rfl (by (try simp only [List.map_toArray, List.map_cons, List.map_nil]); first | done | rfl | (simp only [List.length_drop, List.length_take]; rfl)) ?_; (with_reducible refine (cooperagelaw4_num.calls t332 t334 _ A25.out).mono ?_); rintro e w' ⟨rfl, ⟨nd, rfl⟩⟩; refine ⟨_, rfl, ?_⟩))
                  go_ret
                  exact ⟨by first | rfl | (simp [errW_none, errW_some] <;> rfl) | (simp only [← hji21]; first | rfl | (simp [errW_none, errW_some] <;> rfl)) | (simp [*, errW_none, errW_some] <;> rfl) | (simp [errW_none, errW_some]; generalize ByteArray.toList _ = l_; cases l_ <;> rfl), by repeat (first | (with_reducible first | exact HB.out | apply below_alloc | apply pw_below_drewN | apply below_drew1 | refine below_set ?_ GE316.out | refine below_set ?_ GE333.out) | exact HB.out)⟩
              · rw [if_neg c26] at H
                have c26b0 : (t334 == 4) = false := beq_eq_false_iff_ne.mpr c26
                have c26b1 : (t334 != 4) = true := bne_iff_ne.mpr c26
                obtain rfl := Option.some.inj H
                have hcz44_0 : wc.cell? ⟨gb316, 0, none⟩ = some (.int .i64 a0_0) := (blk_cell BK316.out 0).trans rfl
                have hcz44_1 : wc.cell? ⟨gb316, 1, none⟩ = some (.int .i64 a0_1) := (blk_cell BK316.out 1).trans rfl
                have hcz44_2 : wc.cell? ⟨gb316, 2, none⟩ = some (.string a0_2) := (blk_cell BK316.out 2).trans rfl
                have hcz44_3 : wc.cell? ⟨gb316, 3, none⟩ = some (.string a0_3) := (blk_cell BK316.out 3).trans rfl
                have hcz44_4 : wc.cell? ⟨gb316, 4, none⟩ = some (.bool a0_4) := (blk_cell BK316.out 4).trans rfl
                have hfz44_0 := blk_frozen BK316.out 0
                have hfz44_1 := blk_frozen BK316.out 1
                have hfz44_2 := blk_frozen BK316.out 2
                have hfz44_3 := blk_frozen BK316.out 3
                have hfz44_4 := blk_frozen BK316.out 4
                go_wp2_with (first | ((with_reducible refine gate_callee (f := 29) rfl ?_); refine goesL_ (some 36) rfl rfl Try.func29 (by kernel_rfl) rfl #[.slice none 0 0, .agg #[.int .i64 a0_0, .int .i64 a0_1, .string a0_2, .string a0_3, .bool a0_4]] rfl (by (try simp only [List.map_toArray, List.map_cons, List.map_nil]); first | done | rfl | (simp only [List.length_drop, List.length_take]; rfl)) ?_; (refine (cooperageref1_PutRecord.calls kj3 _ _ ([] : List Int) a0_0 a0_1 a0_2 a0_3 a0_4 t319 _ ?side1 ?side2 A19.out).mono ?_); (case side1 => exact Kd.C_nil _ _); (case side2 => exact Nat.le_refl _); rintro e w45 ⟨v320, rfl, ho0, hb⟩; refine ⟨_, rfl, ?_⟩; have n0_ := Aside0.mk (Kd.R_lower ho0 (below_size (by repeat (first | (with_reducible first | exact HB.out | apply below_alloc | apply pw_below_drewN | apply below_drew1 | refine below_set ?_ GE316.out) | exact HB.out)))); have n1_ := Aside0.mk (blk_below (g := gb316) (o := .cells #[.int .i64 a0_0, .int .i64 a0_1, .string a0_2, .string a0_3, .bool a0_4] 25 (0, 0)) (by (with_reducible repeat (first | refine blk_drewN ?_ _ | refine blk_drew ?_ | refine blk_alloc ?_ _)); exact BK316.out) hb); have n2_ := Aside0.mk (below_step (by repeat (first | (with_reducible first | exact HB.out | apply below_alloc | apply pw_below_drewN | apply below_drew1 | refine below_set ?_ GE316.out) | exact HB.out)) hb); clear BK316; clear HB; have HO321 := n0_; have BK316 := n1_; have HB := n2_; clear n0_ n1_ n2_; (try clear hb); (try clear hb2); (try clear hk); (try clear hi); (try clear ho0); obtain ⟨Ao46, co46, eo46⟩ := Kd.R_slice HO321.out; subst eo46; have q47 : ((ji21) : Int) ≤ ((t319.length : Int) : Int) := of_decide_eq_true (by first | (with_reducible assumption) | assumption); obtain ⟨i047, hi047, _, hsz47, _⟩ := info_parts info5; have hroom47 : t319.length ≤ co46 := (Kd.R_reads' HO321.out).2.1; have hC47 : Kd.C (Kd.int .u8) _ Ao46 t319.length t319 := (Kd.R_reads' HO321.out).2.2; have hcut47 := cut_to (P := Try.prog) 30 5 .i64 Try.underlying30 hi047 Ao46 t319.length co46 (ji21) (of_decide_eq_true (by first | (with_reducible assumption) | assumption)) q47 hroom47; have hr47 := Kd.C_take (m := ((ji21) : Int).toNat) hC47 (by omega); have hy47 : y322.length = ((ji21) : Int).toNat := (by rw [Ny322.out, List.length_take]; omega); rw [← Ny322.out] at hr47; rw [← hy47] at hcut47; have HR325 := Aside0.mk hr47; have HC325 := Aside0.mk (show y322.length ≤ co46 from by omega); clear hr47 hC47 hroom47 hi047 hsz47; have KY47 := Aside0.mk hy47; clear hy47; have KL47 := Aside0.mk (show ((ji21) : Int).toNat ≤ t319.length from by omega); replace q47 := eq_true q47) | ((with_reducible refine gate_callee (f := 25) rfl ?_); refine goesL_ (some 44) rfl rfl Try.func25 (by kernel_rfl) rfl #[.slice Ao46 y322.length co46] rfl (by (try simp only [List.map_toArray, List.map_cons, List.map_nil]); first | done | rfl | (simp only [List.length_drop, List.length_take]; rfl)) ?_; (with_reducible refine (record_Get.calls kj3 _ _ y322 t326 t327 t328 t329 t330 t331 t332 _ ?side1 ?side2 A24.out).mono ?_); (case side1 => repeat (first | exact (by repeat (first | (with_reducible exact HR325.out) | (with_reducible refine Kd.C_alloc ?_ _) | (with_reducible refine Kd.C_drewN ?_ _) | (with_reducible refine Kd.C_drew ?_) | exact HR325.out)) | (with_reducible refine Kd.C_alloc ?_ _) | (with_reducible refine Kd.C_drewN ?_ _) | (with_reducible refine Kd.C_drew ?_))); (case side2 => exact HC325.out); rintro e w48 ⟨rfl, hb⟩; refine ⟨_, rfl, ?_⟩; have n0_ := Aside0.mk (Kd.R_below (by (with_reducible repeat (first | apply Kd.R_alloc | apply Kd.R_drewN | apply Kd.R_drew)); exact HO321.out) hb); have n1_ := Aside0.mk (blk_below (g := gb316) (o := .cells #[.int .i64 a0_0, .int .i64 a0_1, .string a0_2, .string a0_3, .bool a0_4] 25 (0, 0)) (by (with_reducible repeat (first | refine blk_drewN ?_ _ | refine blk_drew ?_ | refine blk_alloc ?_ _)); exact BK316.out) hb); have n2_ := Aside0.mk (Kd.C_below (by repeat (first | (with_reducible exact HR325.out) | (with_reducible refine Kd.C_alloc ?_ _) | (with_reducible refine Kd.C_drewN ?_ _) | (with_reducible refine Kd.C_drew ?_) | exact HR325.out)) hb); have n3_ := Aside0.mk (below_step (by repeat (first | (with_reducible first | exact HB.out | apply below_alloc | apply pw_below_drewN | apply below_drew1 | refine below_set ?_ GE316.out) | exact HB.out)) hb); clear HO321; clear BK316; clear HR325; clear HB; have HO321 := n0_; have BK316 := n1_; have HR325 := n2_; have HB := n3_; clear n0_ n1_ n2_ n3_; (try clear hb); (try clear hb2); (try clear hk); (try clear hi)) | ((with_reducible refine gate_dst (N := 7) rfl ?_); (try (refine gate_guard (by rfl) ?_; dsimp only)); refine box_event ?hg (N := 7) ?hd (cs := #[.int .i64 0, .int .i64 0, .string (⟨#[]⟩ : ByteArray), .string (⟨#[]⟩ : ByteArray), .bool false]) (t := 25) ?hr ?_; (case hd => rfl); (case hg => rfl); (case hr => first | (go_simp; done) | (go_simp; rfl)); intro gb333 hg w49 hbox hb; have n0_ := Aside0.mk (Kd.R_below (by (with_reducible repeat (first | apply Kd.R_alloc | apply Kd.R_drewN | apply Kd.R_drew)); exact HO321.out) hb); have n1_ := Aside0.mk (blk_below (g := gb316) (o := .cells #[.int .i64 a0_0, .int .i64 a0_1, .string a0_2, .string a0_3, .bool a0_4] 25 (0, 0)) (by (with_reducible repeat (first | refine blk_drewN ?_ _ | refine blk_drew ?_ | refine blk_alloc ?_ _)); exact BK316.out) hb); have n2_ := Aside0.mk (Kd.C_below (by repeat (first | (with_reducible exact HR325.out) | (with_reducible refine Kd.C_alloc ?_ _) | (with_reducible refine Kd.C_drewN ?_ _) | (with_reducible refine Kd.C_drew ?_) | exact HR325.out)) hb); have n3_ := Aside0.mk (below_step (by repeat (first | (with_reducible first | exact HB.out | apply below_alloc | apply pw_below_drewN | apply below_drew1 | refine below_set ?_ GE316.out) | exact HB.out)) hb); have n4_ := Aside0.mk (hbox); have n5_ := Aside0.mk ((by rw [hg]; exact (below_size (by repeat (first | (with_reducible first | exact HB.out | apply below_alloc | apply pw_below_drewN | apply below_drew1 | refine below_set ?_ GE316.out) | exact HB.out))) : w.heap.size ≤ gb333)); have n6_ := Aside0.mk ((by rw [hg]; exact (below_size (by repeat (first | (with_reducible first | exact HB.out | apply below_alloc | apply pw_below_drewN | apply below_drew1 | refine below_set ?_ GE316.out) | exact HB.out))) : w.heap.size ≤ gb333)); have n7_ := Aside0.mk ((by rw [hg]; exact Nat.ne_of_lt (blk_lt (g := gb316) (o := .cells #[.int .i64 a0_0, .int .i64 a0_1, .string a0_2, .string a0_3, .bool a0_4] 25 (0, 0)) (by (with_reducible repeat (first | refine blk_drewN ?_ _ | refine blk_drew ?_ | refine blk_alloc ?_ _)); exact BK316.out)) : gb316 ≠ gb333)); have n8_ := Aside0.mk ((by rw [hg]; exact Nat.ne_of_gt (blk_lt (g := gb316) (o := .cells #[.int .i64 a0_0, .int .i64 a0_1, .string a0_2, .string a0_3, .bool a0_4] 25 (0, 0)) (by (with_reducible repeat (first | refine blk_drewN ?_ _ | refine blk_drew ?_ | refine blk_alloc ?_ _)); exact BK316.out)) : gb333 ≠ gb316)); clear HO321; clear BK316; clear HR325; clear HB; have HO321 := n0_; have BK316 := n1_; have HR325 := n2_; have HB := n3_; have BK333 := n4_; have GW333 := n5_; have GE333 := n6_; have NB316_333 := n7_; have NB333_316 := n8_; clear n0_ n1_ n2_ n3_ n4_ n5_ n6_ n7_ n8_; clear hb hbox hg; have hnb50 := NB333_316.out; have hnc50 := NB316_333.out; have hcz51_0 : w49.cell? ⟨gb333, 0, none⟩ = some (.int .i64 0) := (blk_cell BK333.out 0).trans rfl; have hcz51_1 : w49.cell? ⟨gb333, 1, none⟩ = some (.int .i64 0) := (blk_cell BK333.out 1).trans rfl; have hcz51_2 : w49.cell? ⟨gb333, 2, none⟩ = some (.string (⟨#[]⟩ : ByteArray)) := (blk_cell BK333.out 2).trans rfl; have hcz51_3 : w49.cell? ⟨gb333, 3, none⟩ = some (.string (⟨#[]⟩ : ByteArray)) := (blk_cell BK333.out 3).trans rfl; have hcz51_4 : w49.cell? ⟨gb333, 4, none⟩ = some (.bool false) := (blk_cell BK333.out 4).trans rfl; have hfz51_0 := blk_frozen BK333.out 0; have hfz51_1 := blk_frozen BK333.out 1; have hfz51_2 := blk_frozen BK333.out 2; have hfz51_3 := blk_frozen BK333.out 3; have hfz51_4 := blk_frozen BK333.out 4) | ((with_reducible refine gate_callee (f := 27) rfl ?_); refine goesL_ (some 49) rfl rfl Try.func27 (by kernel_rfl) rfl #[.int .i64 t332] rfl (by (try simp only [List.map_toArray, List.map_cons, List.map_nil]); first | done | rfl | (simp only [List.length_drop, List.length_take]; rfl)) ?_; (with_reducible refine (cooperagelaw4_num.calls t332 t334 _ A25.out).mono ?_); rintro e w' ⟨rfl, ⟨nd, rfl⟩⟩; refine ⟨_, rfl, ?_⟩))
                go_ret
                exact ⟨by first | rfl | (simp [errW_none, errW_some] <;> rfl) | (simp only [← hji21]; first | rfl | (simp [errW_none, errW_some] <;> rfl)) | (simp [*, errW_none, errW_some] <;> rfl) | (simp [errW_none, errW_some]; generalize ByteArray.toList _ = l_; cases l_ <;> rfl), by repeat (first | (with_reducible first | exact HB.out | apply below_alloc | apply pw_below_drewN | apply below_drew1 | refine below_set ?_ GE316.out | refine below_set ?_ GE333.out) | exact HB.out)⟩
            · rw [if_neg c23] at H
              exact absurd H (by simp)
          · rw [if_neg c22] at H
            exact absurd H (by simp)

end Go.Proofs.Ytpafbpfcoacidaa.R

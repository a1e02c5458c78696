-- printed by a program of this session (a changed copy of the kit's printer)
import Derived.Test.YtpafbpfcoacidaaRx0
import Derived.Test.YtpafbpfcoacidaaRx2
import Derived.Test.YtpafbpfcoacidaaRx4
import Derived.Test.YtpafbpfcoacidaaRx5
namespace Go.Proofs.Ytpafbpfcoacidaa.R
open Go.RowKit Go.Proofs.YtpafbpfcoacidaaW.PrintWords Go.Proofs.YtpafbpfcoacidaaW.PrintLast Go.Proofs.YtpafbpfcoacidaaW.PrintMore
attribute [local go_sem] max2_int min2_int max_two min_two max_three min_three max_four min_four   -- for this text's walks alone
set_option linter.unusedVariables false
set_option linter.unusedSimpArgs false

/-! ### cooperagelaw4_RecordBounds: function 3 -/
mutual
def cooperagelaw4_RecordBounds.j0 : Nat → Int → Int → Int → Bool → Bool → Bool → Option (Bool)
  | 0, _, _, _, _, _, _ => none
  | k + 1, x0, x1, x2, x3, x9, x32 => if x32 = true then (some x9) else ((cooperagelaw4_text.f k x0).bind fun t168 => ((cooperagelaw4_text.f k x1).bind fun t169 => (if x0 ≥ 1 then (if x0 ≤ 200 then (if x1 ≤ 2000 then (if x3 = true then (cooperagelaw4_RecordBounds.j1 k x2 (x1 == 0) 0 0 t168 t169 x3) else (cooperagelaw4_RecordBounds.j1 k x2 true 0 0 t168 t169 x3)) else (cooperagelaw4_RecordBounds.j1 k x2 false 0 0 t168 t169 x3)) else (cooperagelaw4_RecordBounds.j1 k x2 false 0 0 t168 t169 x3)) else (cooperagelaw4_RecordBounds.j1 k x2 false 0 0 t168 t169 x3))))
def cooperagelaw4_RecordBounds.j1 : Nat → Int → Bool → Int → Int → ByteArray → ByteArray → Bool → Option (Bool)
  | 0, _, _, _, _, _, _, _ => none
  | k + 1, x2, x11, x171000, x171001, x171002, x171003, x171004 => (some (([0, 1125899906842624, 1125899906842625, (-1), 5, 5, 5, 5] : List Int) : List Int)).bind fun y171 => ((some (([0, 0, 0, 0, 1099511627776, 1099511627777, (-1099511627776), (-1099511627777)] : List Int) : List Int)).bind fun y174 => (if x2 < 0 then (cooperagelaw4_RecordBounds.j2 k x2 x11 y171 y174 true x171000 x171001 x171002 x171003 x171004) else (cooperagelaw4_RecordBounds.j2 k x2 x11 y171 y174 (decide (x2 ≥ (y171.length : Int))) x171000 x171001 x171002 x171003 x171004)))
def cooperagelaw4_RecordBounds.j2 : Nat → Int → Bool → List Int → List Int → Bool → Int → Int → ByteArray → ByteArray → Bool → Option (Bool)
  | 0, _, _, _, _, _, _, _, _, _, _ => none
  | k + 1, x2, x11, x12, x13, x67, x171000, x171001, x171002, x171003, x171004 => if x67 = true then (some true) else (if 0 ≤ x2 then (if x2 < (x12.length : Int) then (if x2 < (x13.length : Int) then (if x11 = true then (if x2 = 2 then ((record_Right.f (rd x12 x2) (rd x13 x2) x171002 x171003 x171004).bind fun t179 => (if (t179 == false) = true then ((record_Size.f k (rd x12 x2) (rd x13 x2) x171002 x171003 x171004).bind fun t180 => (some ((decide (t180 > 0)) == false))) else (some false))) else (if x2 = 3 then ((record_Right.f (rd x12 x2) (rd x13 x2) x171002 x171003 x171004).bind fun t181 => (if (t181 == false) = true then ((record_Size.f k (rd x12 x2) (rd x13 x2) x171002 x171003 x171004).bind fun t182 => (some ((decide (t182 > 0)) == false))) else (some false))) else (if x2 = 5 then ((record_Right.f (rd x12 x2) (rd x13 x2) x171002 x171003 x171004).bind fun t183 => (if (t183 == false) = true then ((record_Size.f k (rd x12 x2) (rd x13 x2) x171002 x171003 x171004).bind fun t184 => (some ((decide (t184 > 0)) == false))) else (some false))) else ((record_Right.f (rd x12 x2) (rd x13 x2) x171002 x171003 x171004).bind fun t185 => (if (t185 == (x2 != 7)) = true then ((record_Size.f k (rd x12 x2) (rd x13 x2) x171002 x171003 x171004).bind fun t186 => (some ((decide (t186 > 0)) == (x2 != 7)))) else (some false)))))) else ((record_Right.f (rd x12 x2) (rd x13 x2) x171002 x171003 x171004).bind fun t187 => (if (t187 == false) = true then ((record_Size.f k (rd x12 x2) (rd x13 x2) x171002 x171003 x171004).bind fun t188 => (some ((decide (t188 > 0)) == false))) else (some false)))) else (none)) else (none)) else (none))
end
def cooperagelaw4_RecordBounds.f (k : Nat) (a0 : Int) (a1 : Int) (a2 : Int) (a3 : Bool) : Option (Bool) := (cooperagelaw4_alive.f k).bind fun t167 => (if t167 = true then (if a0 < 0 then (cooperagelaw4_RecordBounds.j0 k a0 a1 a2 a3 t167 true) else (if a0 > 210 then (cooperagelaw4_RecordBounds.j0 k a0 a1 a2 a3 t167 true) else (if a1 < 0 then (cooperagelaw4_RecordBounds.j0 k a0 a1 a2 a3 t167 true) else (cooperagelaw4_RecordBounds.j0 k a0 a1 a2 a3 t167 (decide (a1 > 2010)))))) else (cooperagelaw4_RecordBounds.j0 k a0 a1 a2 a3 t167 true))
theorem cooperagelaw4_RecordBounds.mono_l : ∀ k, (∀ y0 y1 y2 y3 y4 y5, LeO (cooperagelaw4_RecordBounds.j0 k y0 y1 y2 y3 y4 y5) (cooperagelaw4_RecordBounds.j0 (k + 1) y0 y1 y2 y3 y4 y5)) ∧ (∀ y0 y1 y2 y3 y4 y5 y6, LeO (cooperagelaw4_RecordBounds.j1 k y0 y1 y2 y3 y4 y5 y6) (cooperagelaw4_RecordBounds.j1 (k + 1) y0 y1 y2 y3 y4 y5 y6)) ∧ (∀ y0 y1 y2 y3 y4 y5 y6 y7 y8 y9, LeO (cooperagelaw4_RecordBounds.j2 k y0 y1 y2 y3 y4 y5 y6 y7 y8 y9) (cooperagelaw4_RecordBounds.j2 (k + 1) y0 y1 y2 y3 y4 y5 y6 y7 y8 y9))
  | 0 => ⟨fun _ _ _ _ _ _ r h => by simp [cooperagelaw4_RecordBounds.j0] at h, fun _ _ _ _ _ _ _ r h => by simp [cooperagelaw4_RecordBounds.j1] at h, fun _ _ _ _ _ _ _ _ _ _ r h => by simp [cooperagelaw4_RecordBounds.j2] at h⟩
  | k + 1 => by
    obtain ⟨ih0, ih1, ih2⟩ := cooperagelaw4_RecordBounds.mono_l k
    refine ⟨?_, ?_, ?_⟩
    · intro y0 y1 y2 y3 y4 y5
      unfold cooperagelaw4_RecordBounds.j0
      repeat' first
      | (with_reducible exact ih0 _ _ _ _ _ _)
      | (with_reducible exact ih1 _ _ _ _ _ _ _)
      | (with_reducible exact ih2 _ _ _ _ _ _ _ _ _ _)
      | (with_reducible exact cooperagelaw4_alive.mono _)
      | (with_reducible exact cooperagelaw4_text.mono _ _)
      | (with_reducible exact record_Size.mono _ _ _ _ _ _)
      | (with_reducible exact LeO.refl _)
      | (with_reducible exact LeO.none _)
      | (with_reducible refine LeO.ite ?_ ?_)
      | (with_reducible refine LeO.bind ?_ (fun _ => ?_))
      | exact ih0 _ _ _ _ _ _
      | exact ih1 _ _ _ _ _ _ _
      | exact ih2 _ _ _ _ _ _ _ _ _ _
      | exact cooperagelaw4_alive.mono _
      | exact cooperagelaw4_text.mono _ _
      | exact record_Size.mono _ _ _ _ _ _
      | exact LeO.none _
      | refine LeO.ite ?_ ?_
      | refine LeO.bind ?_ (fun _ => ?_)
    · intro y0 y1 y2 y3 y4 y5 y6
      unfold cooperagelaw4_RecordBounds.j1
      repeat' first
      | (with_reducible exact ih0 _ _ _ _ _ _)
      | (with_reducible exact ih1 _ _ _ _ _ _ _)
      | (with_reducible exact ih2 _ _ _ _ _ _ _ _ _ _)
      | (with_reducible exact cooperagelaw4_alive.mono _)
      | (with_reducible exact cooperagelaw4_text.mono _ _)
      | (with_reducible exact record_Size.mono _ _ _ _ _ _)
      | (with_reducible exact LeO.refl _)
      | (with_reducible exact LeO.none _)
      | (with_reducible refine LeO.ite ?_ ?_)
      | (with_reducible refine LeO.bind ?_ (fun _ => ?_))
      | exact ih0 _ _ _ _ _ _
      | exact ih1 _ _ _ _ _ _ _
      | exact ih2 _ _ _ _ _ _ _ _ _ _
      | exact cooperagelaw4_alive.mono _
      | exact cooperagelaw4_text.mono _ _
      | exact record_Size.mono _ _ _ _ _ _
      | exact LeO.none _
      | refine LeO.ite ?_ ?_
      | refine LeO.bind ?_ (fun _ => ?_)
    · intro y0 y1 y2 y3 y4 y5 y6 y7 y8 y9
      unfold cooperagelaw4_RecordBounds.j2
      repeat' first
      | (with_reducible exact ih0 _ _ _ _ _ _)
      | (with_reducible exact ih1 _ _ _ _ _ _ _)
      | (with_reducible exact ih2 _ _ _ _ _ _ _ _ _ _)
      | (with_reducible exact cooperagelaw4_alive.mono _)
      | (with_reducible exact cooperagelaw4_text.mono _ _)
      | (with_reducible exact record_Size.mono _ _ _ _ _ _)
      | (with_reducible exact LeO.refl _)
      | (with_reducible exact LeO.none _)
      | (with_reducible refine LeO.ite ?_ ?_)
      | (with_reducible refine LeO.bind ?_ (fun _ => ?_))
      | exact ih0 _ _ _ _ _ _
      | exact ih1 _ _ _ _ _ _ _
      | exact ih2 _ _ _ _ _ _ _ _ _ _
      | exact cooperagelaw4_alive.mono _
      | exact cooperagelaw4_text.mono _ _
      | exact record_Size.mono _ _ _ _ _ _
      | exact LeO.none _
      | refine LeO.ite ?_ ?_
      | refine LeO.bind ?_ (fun _ => ?_)
theorem cooperagelaw4_RecordBounds.mono : ∀ a0 a1 a2 a3 k, LeO (cooperagelaw4_RecordBounds.f k a0 a1 a2 a3) (cooperagelaw4_RecordBounds.f (k + 1) a0 a1 a2 a3) := by
  intro a0 a1 a2 a3 k
  obtain ⟨ih0, ih1, ih2⟩ := cooperagelaw4_RecordBounds.mono_l k
  unfold cooperagelaw4_RecordBounds.f
  repeat' first
      | (with_reducible exact ih0 _ _ _ _ _ _)
      | (with_reducible exact ih1 _ _ _ _ _ _ _)
      | (with_reducible exact ih2 _ _ _ _ _ _ _ _ _ _)
      | (with_reducible exact cooperagelaw4_alive.mono _)
      | (with_reducible exact cooperagelaw4_text.mono _ _)
      | (with_reducible exact record_Size.mono _ _ _ _ _ _)
      | (with_reducible exact LeO.refl _)
      | (with_reducible exact LeO.none _)
      | (with_reducible refine LeO.ite ?_ ?_)
      | (with_reducible refine LeO.bind ?_ (fun _ => ?_))
      | exact ih0 _ _ _ _ _ _
      | exact ih1 _ _ _ _ _ _ _
      | exact ih2 _ _ _ _ _ _ _ _ _ _
      | exact cooperagelaw4_alive.mono _
      | exact cooperagelaw4_text.mono _ _
      | exact record_Size.mono _ _ _ _ _ _
      | exact LeO.none _
      | refine LeO.ite ?_ ?_
      | refine LeO.bind ?_ (fun _ => ?_)
set_option maxHeartbeats 8000000 in
set_option maxRecDepth 100000 in
theorem cooperagelaw4_RecordBounds.calls (k : Nat) (a0 : Int) (a1 : Int) (a2 : Int) (a3 : Bool) (r : Bool) (w : World) (h : cooperagelaw4_RecordBounds.f k a0 a1 a2 a3 = some r) :
    Calls Try.prog 3 #[.int .i64 a0, .int .i64 a1, .int .i64 a2, .bool a3] w fun e w' => e = .returned (.bool r) ∧ Below w.heap.size w w' := by
  have hu25 := Try.underlying25
  have HB := Aside0.mk (Below.refl w.heap.size w)
  have H : ((cooperagelaw4_alive.f k).bind fun t167 => (if t167 = true then (if a0 < 0 then (cooperagelaw4_RecordBounds.j0 k a0 a1 a2 a3 t167 true) else (if a0 > 210 then (cooperagelaw4_RecordBounds.j0 k a0 a1 a2 a3 t167 true) else (if a1 < 0 then (cooperagelaw4_RecordBounds.j0 k a0 a1 a2 a3 t167 true) else (cooperagelaw4_RecordBounds.j0 k a0 a1 a2 a3 t167 (decide (a1 > 2010)))))) else (cooperagelaw4_RecordBounds.j0 k a0 a1 a2 a3 t167 true))) = some r := h
  clear h
  replace H := Option.bind_eq_some_iff.mp H
  obtain ⟨t167, A50, H⟩ := H
  replace H : (if t167 = true then (if a0 < 0 then (cooperagelaw4_RecordBounds.j0 k a0 a1 a2 a3 t167 true) else (if a0 > 210 then (cooperagelaw4_RecordBounds.j0 k a0 a1 a2 a3 t167 true) else (if a1 < 0 then (cooperagelaw4_RecordBounds.j0 k a0 a1 a2 a3 t167 true) else (cooperagelaw4_RecordBounds.j0 k a0 a1 a2 a3 t167 (decide (a1 > 2010)))))) else (cooperagelaw4_RecordBounds.j0 k a0 a1 a2 a3 t167 true)) = some r := H
  have A5 := Aside0.mk A50
  clear A50
  have HC6 := Aside0.mk H
  clear H
  go_enter Try.func3, Try.ntmps3
  go_upto_region 2 with (first | ((with_reducible refine gate_callee (f := 12) rfl ?_); refine goesL_ (some 14) rfl rfl Try.func12 (by kernel_rfl) rfl #[] rfl (by (try simp only [List.map_toArray, List.map_cons, List.map_nil]); first | done | rfl | (simp only [List.length_drop, List.length_take]; rfl)) ?_; (with_reducible refine (cooperagelaw4_alive.calls k  t167 _ A5.out).mono ?_); rintro e w7 ⟨rfl, hb⟩; refine ⟨_, rfl, ?_⟩; have n0_ := Aside0.mk (below_step (by repeat (first | (with_reducible first | exact HB.out | apply below_alloc | apply pw_below_drewN | apply below_drew1) | exact HB.out)) hb); clear HB; have HB := n0_; clear n0_; (try clear hb); (try clear hb2); (try clear hk); (try clear hi)))
  (try simp only [Act.put, List.setIfInBounds_toArray, List.set_cons_zero, List.set_cons_succ])
  go_cut [32] (fun v32 wc => ∃ (kq : Nat) (x32_5 : Bool), v32 = .bool x32_5 ∧ Aside0 (cooperagelaw4_RecordBounds.j0 kq a0 a1 a2 a3 t167 x32_5 = some r) ∧ Aside0 (kq ≤ k) ∧ Aside0 (Below w.heap.size w wc))
  case first =>
    have H := HC6.out
    clear HC6
    by_cases c8 : t167 = true
    · subst c8
      have H1 : (if a0 < 0 then (cooperagelaw4_RecordBounds.j0 k a0 a1 a2 a3 true true) else (if a0 > 210 then (cooperagelaw4_RecordBounds.j0 k a0 a1 a2 a3 true true) else (if a1 < 0 then (cooperagelaw4_RecordBounds.j0 k a0 a1 a2 a3 true true) else (cooperagelaw4_RecordBounds.j0 k a0 a1 a2 a3 true (decide (a1 > 2010)))))) = some r := by rw [if_pos rfl] at H; exact H
      clear H
      have H := H1
      clear H1
      by_cases c9 : a0 < 0
      · rw [if_pos c9] at H
        have c9b0 : decide (a0 < 0) = true := decide_eq_true c9
        clear c9
        (first | rw [c9b0] | (simp only [i64_w, i32_w]; rw [c9b0]) | skip)
        have H' := Aside0.mk H
        clear H
        go_wp2
        go_meet
        case rel => exact ⟨_, (true), (by first | rfl | (simp; done) | (simp [*]; done)), H', ⟨by first | omega | exact Nat.le_refl _⟩, ⟨by repeat (first | (with_reducible first | exact HB.out | apply below_alloc | apply pw_below_drewN | apply below_drew1) | exact HB.out)⟩⟩
      · rw [if_neg c9] at H
        have c9b0 : decide (a0 < 0) = false := decide_eq_false c9
        clear c9
        (first | rw [c9b0] | (simp only [i64_w, i32_w]; rw [c9b0]) | skip)
        by_cases c10 : a0 > 210
        · rw [if_pos c10] at H
          have c10b0 : decide (210 < a0) = true := decide_eq_true c10
          clear c10
          have H' := Aside0.mk H
          clear H
          go_wp2
          go_meet
          case rel => exact ⟨_, (true), (by first | rfl | (simp; done) | (simp [*]; done)), H', ⟨by first | omega | exact Nat.le_refl _⟩, ⟨by repeat (first | (with_reducible first | exact HB.out | apply below_alloc | apply pw_below_drewN | apply below_drew1) | exact HB.out)⟩⟩
        · rw [if_neg c10] at H
          have c10b0 : decide (210 < a0) = false := decide_eq_false c10
          clear c10
          by_cases c11 : a1 < 0
          · rw [if_pos c11] at H
            have c11b0 : decide (a1 < 0) = true := decide_eq_true c11
            clear c11
            have H' := Aside0.mk H
            clear H
            go_wp2
            go_meet
            case rel => exact ⟨_, (true), (by first | rfl | (simp; done) | (simp [*]; done)), H', ⟨by first | omega | exact Nat.le_refl _⟩, ⟨by repeat (first | (with_reducible first | exact HB.out | apply below_alloc | apply pw_below_drewN | apply below_drew1) | exact HB.out)⟩⟩
          · rw [if_neg c11] at H
            have c11b0 : decide (a1 < 0) = false := decide_eq_false c11
            clear c11
            have H' := Aside0.mk H
            clear H
            go_wp2
            go_meet
            case rel => exact ⟨_, (decide (a1 > 2010)), (by first | rfl | (simp; done) | (simp [*]; done)), H', ⟨by first | omega | exact Nat.le_refl _⟩, ⟨by repeat (first | (with_reducible first | exact HB.out | apply below_alloc | apply pw_below_drewN | apply below_drew1) | exact HB.out)⟩⟩
    · replace c8 := Bool.eq_false_iff.mpr c8
      subst c8
      have H1 : (cooperagelaw4_RecordBounds.j0 k a0 a1 a2 a3 false true) = some r := by rw [if_neg (show ¬ (false = true) by decide)] at H; exact H
      clear H
      have H := H1
      clear H1
      have H' := Aside0.mk H
      clear H
      go_wp2
      go_meet
      case rel => exact ⟨_, (true), (by first | rfl | (simp; done) | (simp [*]; done)), H', ⟨by first | omega | exact Nat.le_refl _⟩, ⟨by repeat (first | (with_reducible first | exact HB.out | apply below_alloc | apply pw_below_drewN | apply below_drew1) | exact HB.out)⟩⟩
  case rest =>
    clear HC6
    try clear c1
    try clear p2
    try clear c3
    try clear c8
    try clear c9
    try clear c9b0
    try clear c10
    try clear c10b0
    try clear c11
    try clear c11b0
    obtain ⟨kq, x32_5, rfl, HA, HJ5, HB⟩ := hcut
    cases kq with
    | zero => exact absurd HA.out (by simp [cooperagelaw4_RecordBounds.j0])
    | succ kj5 =>
      have H := HA.out
      clear HA
      simp only [cooperagelaw4_RecordBounds.j0] at H
      by_cases c12 : x32_5 = true
      · subst c12
        have H1 : (some t167) = some r := by rw [if_pos rfl] at H; exact H
        clear H
        have H := H1
        clear H1
        obtain rfl := Option.some.inj H
        go_wp2
        go_ret
        exact ⟨by first | rfl | (simp [errW_none, errW_some] <;> rfl) | (simp [*, errW_none, errW_some] <;> rfl) | (simp [errW_none, errW_some]; generalize ByteArray.toList _ = l_; cases l_ <;> rfl), by repeat (first | (with_reducible first | exact HB.out | apply below_alloc | apply pw_below_drewN | apply below_drew1) | exact HB.out)⟩
      · replace c12 := Bool.eq_false_iff.mpr c12
        subst c12
        have H1 : ((cooperagelaw4_text.f kj5 a0).bind fun t168 => ((cooperagelaw4_text.f kj5 a1).bind fun t169 => (if a0 ≥ 1 then (if a0 ≤ 200 then (if a1 ≤ 2000 then (if a3 = true then (cooperagelaw4_RecordBounds.j1 kj5 a2 (a1 == 0) 0 0 t168 t169 a3) else (cooperagelaw4_RecordBounds.j1 kj5 a2 true 0 0 t168 t169 a3)) else (cooperagelaw4_RecordBounds.j1 kj5 a2 false 0 0 t168 t169 a3)) else (cooperagelaw4_RecordBounds.j1 kj5 a2 false 0 0 t168 t169 a3)) else (cooperagelaw4_RecordBounds.j1 kj5 a2 false 0 0 t168 t169 a3)))) = some r := by rw [if_neg (show ¬ (false = true) by decide)] at H; exact H
        clear H
        have H := H1
        clear H1
        replace H := Option.bind_eq_some_iff.mp H
        obtain ⟨t168, A130, H⟩ := H
        replace H : ((cooperagelaw4_text.f kj5 a1).bind fun t169 => (if a0 ≥ 1 then (if a0 ≤ 200 then (if a1 ≤ 2000 then (if a3 = true then (cooperagelaw4_RecordBounds.j1 kj5 a2 (a1 == 0) 0 0 t168 t169 a3) else (cooperagelaw4_RecordBounds.j1 kj5 a2 true 0 0 t168 t169 a3)) else (cooperagelaw4_RecordBounds.j1 kj5 a2 false 0 0 t168 t169 a3)) else (cooperagelaw4_RecordBounds.j1 kj5 a2 false 0 0 t168 t169 a3)) else (cooperagelaw4_RecordBounds.j1 kj5 a2 false 0 0 t168 t169 a3))) = some r := H
        have A13 := Aside0.mk A130
        clear A130
        replace H := Option.bind_eq_some_iff.mp H
        obtain ⟨t169, A140, H⟩ := H
        replace H : (if a0 ≥ 1 then (if a0 ≤ 200 then (if a1 ≤ 2000 then (if a3 = true then (cooperagelaw4_RecordBounds.j1 kj5 a2 (a1 == 0) 0 0 t168 t169 a3) else (cooperagelaw4_RecordBounds.j1 kj5 a2 true 0 0 t168 t169 a3)) else (cooperagelaw4_RecordBounds.j1 kj5 a2 false 0 0 t168 t169 a3)) else (cooperagelaw4_RecordBounds.j1 kj5 a2 false 0 0 t168 t169 a3)) else (cooperagelaw4_RecordBounds.j1 kj5 a2 false 0 0 t168 t169 a3)) = some r := H
        have A14 := Aside0.mk A140
        clear A140
        have HC15 := Aside0.mk H
        clear H
        go_upto_region 5 with (first | ((with_reducible refine gate_callee (f := 13) rfl ?_); refine goesL_ (some 35) rfl rfl Try.func13 (by kernel_rfl) rfl #[.int .i64 a0] rfl (by (try simp only [List.map_toArray, List.map_cons, List.map_nil]); first | done | rfl | (simp only [List.length_drop, List.length_take]; rfl)) ?_; (with_reducible refine (cooperagelaw4_text.calls kj5 a0 t168 _ A13.out).mono ?_); rintro e w16 ⟨rfl, hb⟩; refine ⟨_, rfl, ?_⟩; have n0_ := Aside0.mk (below_step (by repeat (first | (with_reducible first | exact HB.out | apply below_alloc | apply pw_below_drewN | apply below_drew1) | exact HB.out)) hb); clear HB; have HB := n0_; clear n0_; (try clear hb); (try clear hb2); (try clear hk); (try clear hi)) | ((with_reducible refine gate_callee (f := 13) rfl ?_); refine goesL_ (some 37) rfl rfl Try.func13 (by kernel_rfl) rfl #[.int .i64 a1] rfl (by (try simp only [List.map_toArray, List.map_cons, List.map_nil]); first | done | rfl | (simp only [List.length_drop, List.length_take]; rfl)) ?_; (with_reducible refine (cooperagelaw4_text.calls kj5 a1 t169 _ A14.out).mono ?_); rintro e w17 ⟨rfl, hb⟩; refine ⟨_, rfl, ?_⟩; have n0_ := Aside0.mk (below_step (by repeat (first | (with_reducible first | exact HB.out | apply below_alloc | apply pw_below_drewN | apply below_drew1) | exact HB.out)) hb); clear HB; have HB := n0_; clear n0_; (try clear hb); (try clear hb2); (try clear hk); (try clear hi)) | ((with_reducible refine gate_dst (N := 10) rfl ?_); (try (refine gate_guard (by rfl) ?_; dsimp only)); refine box_event ?hg (N := 10) ?hd (cs := #[.int .i64 0, .int .i64 0, .string (⟨#[]⟩ : ByteArray), .string (⟨#[]⟩ : ByteArray), .bool false]) (t := 25) ?hr ?_; (case hd => rfl); (case hg => rfl); (case hr => first | (go_simp; done) | (go_simp; rfl)); intro gb170 hg w18 hbox hb; have n0_ := Aside0.mk (below_step (by repeat (first | (with_reducible first | exact HB.out | apply below_alloc | apply pw_below_drewN | apply below_drew1) | exact HB.out)) hb); have n1_ := Aside0.mk (hbox); have n2_ := Aside0.mk ((by rw [hg]; exact (below_size (by repeat (first | (with_reducible first | exact HB.out | apply below_alloc | apply pw_below_drewN | apply below_drew1) | exact HB.out))) : w.heap.size ≤ gb170)); have n3_ := Aside0.mk ((by rw [hg]; exact (below_size (by repeat (first | (with_reducible first | exact HB.out | apply below_alloc | apply pw_below_drewN | apply below_drew1) | exact HB.out))) : w.heap.size ≤ gb170)); clear HB; have HB := n0_; have BK170 := n1_; have GW170 := n2_; have GE170 := n3_; clear n0_ n1_ n2_ n3_; clear hb hbox hg; have hcz19_0 : w18.cell? ⟨gb170, 0, none⟩ = some (.int .i64 0) := (blk_cell BK170.out 0).trans rfl; have hcz19_1 : w18.cell? ⟨gb170, 1, none⟩ = some (.int .i64 0) := (blk_cell BK170.out 1).trans rfl; have hcz19_2 : w18.cell? ⟨gb170, 2, none⟩ = some (.string (⟨#[]⟩ : ByteArray)) := (blk_cell BK170.out 2).trans rfl; have hcz19_3 : w18.cell? ⟨gb170, 3, none⟩ = some (.string (⟨#[]⟩ : ByteArray)) := (blk_cell BK170.out 3).trans rfl; have hcz19_4 : w18.cell? ⟨gb170, 4, none⟩ = some (.bool false) := (blk_cell BK170.out 4).trans rfl; have hfz19_0 := blk_frozen BK170.out 0; have hfz19_1 := blk_frozen BK170.out 1; have hfz19_2 := blk_frozen BK170.out 2; have hfz19_3 := blk_frozen BK170.out 3; have hfz19_4 := blk_frozen BK170.out 4))
        (try simp only [Act.put, List.setIfInBounds_toArray, List.set_cons_zero, List.set_cons_succ])
        go_cut [11] (fun v11 wc => ∃ (kq : Nat) (x11_14 : Bool), v11 = .bool x11_14 ∧ Aside0 (cooperagelaw4_RecordBounds.j1 kq a2 x11_14 0 0 t168 t169 a3 = some r) ∧ Aside0 (kq ≤ kj5) ∧ Aside0 (wc.heap[gb170]? = some (.cells #[.int .i64 0, .int .i64 0, .string t168, .string t169, .bool a3] 25 (0, 0))) ∧ Aside0 (Below w.heap.size w wc))
        case first =>
          have H := HC15.out
          clear HC15
          by_cases c20 : a0 ≥ 1
          · rw [if_pos c20] at H
            have c20b0 : decide (1 ≤ a0) = true := decide_eq_true c20
            clear c20
            (first | rw [c20b0] | (simp only [i64_w, i32_w]; rw [c20b0]) | skip)
            by_cases c21 : a0 ≤ 200
            · rw [if_pos c21] at H
              have c21b0 : decide (a0 ≤ 200) = true := decide_eq_true c21
              clear c21
              by_cases c22 : a1 ≤ 2000
              · rw [if_pos c22] at H
                have c22b0 : decide (a1 ≤ 2000) = true := decide_eq_true c22
                clear c22
                by_cases c23 : a3 = true
                · subst c23
                  have H1 : (cooperagelaw4_RecordBounds.j1 kj5 a2 (a1 == 0) 0 0 t168 t169 true) = some r := by rw [if_pos rfl] at H; exact H
                  clear H
                  have H := H1
                  clear H1
                  have H' := Aside0.mk H
                  clear H
                  go_wp2
                  go_meet
                  case rel => exact ⟨_, ((a1 == 0)), (by first | rfl | (simp; done) | (simp [*]; done)), H', ⟨by have := HJ5.out; first | omega | exact Nat.le_refl _⟩, ⟨by (with_reducible repeat (first | refine blk_drewN ?_ _ | refine blk_drew ?_ | refine blk_alloc ?_ _)); refine blk_put (cs := #[.int .i64 0, .int .i64 0, .string t168, .string t169, .bool false]) ?_ 4 _ rfl; (with_reducible repeat (first | refine blk_drewN ?_ _ | refine blk_drew ?_ | refine blk_alloc ?_ _)); refine blk_put (cs := #[.int .i64 0, .int .i64 0, .string t168, .string (⟨#[]⟩ : ByteArray), .bool false]) ?_ 3 _ rfl; (with_reducible repeat (first | refine blk_drewN ?_ _ | refine blk_drew ?_ | refine blk_alloc ?_ _)); refine blk_put (cs := #[.int .i64 0, .int .i64 0, .string (⟨#[]⟩ : ByteArray), .string (⟨#[]⟩ : ByteArray), .bool false]) ?_ 2 _ rfl; (with_reducible repeat (first | refine blk_drewN ?_ _ | refine blk_drew ?_ | refine blk_alloc ?_ _)); refine blk_put (cs := #[.int .i64 0, .int .i64 0, .string (⟨#[]⟩ : ByteArray), .string (⟨#[]⟩ : ByteArray), .bool false]) ?_ 1 _ rfl; (with_reducible repeat (first | refine blk_drewN ?_ _ | refine blk_drew ?_ | refine blk_alloc ?_ _)); refine blk_put (cs := #[.int .i64 0, .int .i64 0, .string (⟨#[]⟩ : ByteArray), .string (⟨#[]⟩ : ByteArray), .bool false]) ?_ 0 _ rfl; (with_reducible repeat (first | refine blk_drewN ?_ _ | refine blk_drew ?_ | refine blk_alloc ?_ _)); exact BK170.out⟩, ⟨by repeat (first | (with_reducible first | exact HB.out | apply below_alloc | apply pw_below_drewN | apply below_drew1 | refine below_set ?_ GE170.out) | exact HB.out)⟩⟩
                · replace c23 := Bool.eq_false_iff.mpr c23
                  subst c23
                  have H1 : (cooperagelaw4_RecordBounds.j1 kj5 a2 true 0 0 t168 t169 false) = some r := by rw [if_neg (show ¬ (false = true) by decide)] at H; exact H
                  clear H
                  have H := H1
                  clear H1
                  have H' := Aside0.mk H
                  clear H
                  go_wp2
                  go_meet
                  case rel => exact ⟨_, (true), (by first | rfl | (simp; done) | (simp [*]; done)), H', ⟨by have := HJ5.out; first | omega | exact Nat.le_refl _⟩, ⟨by (with_reducible repeat (first | refine blk_drewN ?_ _ | refine blk_drew ?_ | refine blk_alloc ?_ _)); refine blk_put (cs := #[.int .i64 0, .int .i64 0, .string t168, .string t169, .bool false]) ?_ 4 _ rfl; (with_reducible repeat (first | refine blk_drewN ?_ _ | refine blk_drew ?_ | refine blk_alloc ?_ _)); refine blk_put (cs := #[.int .i64 0, .int .i64 0, .string t168, .string (⟨#[]⟩ : ByteArray), .bool false]) ?_ 3 _ rfl; (with_reducible repeat (first | refine blk_drewN ?_ _ | refine blk_drew ?_ | refine blk_alloc ?_ _)); refine blk_put (cs := #[.int .i64 0, .int .i64 0, .string (⟨#[]⟩ : ByteArray), .string (⟨#[]⟩ : ByteArray), .bool false]) ?_ 2 _ rfl; (with_reducible repeat (first | refine blk_drewN ?_ _ | refine blk_drew ?_ | refine blk_alloc ?_ _)); refine blk_put (cs := #[.int .i64 0, .int .i64 0, .string (⟨#[]⟩ : ByteArray), .string (⟨#[]⟩ : ByteArray), .bool false]) ?_ 1 _ rfl; (with_reducible repeat (first | refine blk_drewN ?_ _ | refine blk_drew ?_ | refine blk_alloc ?_ _)); refine blk_put (cs := #[.int .i64 0, .int .i64 0, .string (⟨#[]⟩ : ByteArray), .string (⟨#[]⟩ : ByteArray), .bool false]) ?_ 0 _ rfl; (with_reducible repeat (first | refine blk_drewN ?_ _ | refine blk_drew ?_ | refine blk_alloc ?_ _)); exact BK170.out⟩, ⟨by repeat (first | (with_reducible first | exact HB.out | apply below_alloc | apply pw_below_drewN | apply below_drew1 | refine below_set ?_ GE170.out) | exact HB.out)⟩⟩
              · rw [if_neg c22] at H
                have c22b0 : decide (a1 ≤ 2000) = false := decide_eq_false c22
                clear c22
                have H' := Aside0.mk H
                clear H
                go_wp2
                go_meet
                case rel => exact ⟨_, (false), (by first | rfl | (simp; done) | (simp [*]; done)), H', ⟨by have := HJ5.out; first | omega | exact Nat.le_refl _⟩, ⟨by (with_reducible repeat (first | refine blk_drewN ?_ _ | refine blk_drew ?_ | refine blk_alloc ?_ _)); refine blk_put (cs := #[.int .i64 0, .int .i64 0, .string t168, .string t169, .bool false]) ?_ 4 _ rfl; (with_reducible repeat (first | refine blk_drewN ?_ _ | refine blk_drew ?_ | refine blk_alloc ?_ _)); refine blk_put (cs := #[.int .i64 0, .int .i64 0, .string t168, .string (⟨#[]⟩ : ByteArray), .bool false]) ?_ 3 _ rfl; (with_reducible repeat (first | refine blk_drewN ?_ _ | refine blk_drew ?_ | refine blk_alloc ?_ _)); refine blk_put (cs := #[.int .i64 0, .int .i64 0, .string (⟨#[]⟩ : ByteArray), .string (⟨#[]⟩ : ByteArray), .bool false]) ?_ 2 _ rfl; (with_reducible repeat (first | refine blk_drewN ?_ _ | refine blk_drew ?_ | refine blk_alloc ?_ _)); refine blk_put (cs := #[.int .i64 0, .int .i64 0, .string (⟨#[]⟩ : ByteArray), .string (⟨#[]⟩ : ByteArray), .bool false]) ?_ 1 _ rfl; (with_reducible repeat (first | refine blk_drewN ?_ _ | refine blk_drew ?_ | refine blk_alloc ?_ _)); refine blk_put (cs := #[.int .i64 0, .int .i64 0, .string (⟨#[]⟩ : ByteArray), .string (⟨#[]⟩ : ByteArray), .bool false]) ?_ 0 _ rfl; (with_reducible repeat (first | refine blk_drewN ?_ _ | refine blk_drew ?_ | refine blk_alloc ?_ _)); exact BK170.out⟩, ⟨by repeat (first | (with_reducible first | exact HB.out | apply below_alloc | apply pw_below_drewN | apply below_drew1 | refine below_set ?_ GE170.out) | exact HB.out)⟩⟩
            · rw [if_neg c21] at H
              have c21b0 : decide (a0 ≤ 200) = false := decide_eq_false c21
              clear c21
              have H' := Aside0.mk H
              clear H
              go_wp2
              go_meet
              case rel => exact ⟨_, (false), (by first | rfl | (simp; done) | (simp [*]; done)), H', ⟨by have := HJ5.out; first | omega | exact Nat.le_refl _⟩, ⟨by (with_reducible repeat (first | refine blk_drewN ?_ _ | refine blk_drew ?_ | refine blk_alloc ?_ _)); refine blk_put (cs := #[.int .i64 0, .int .i64 0, .string t168, .string t169, .bool false]) ?_ 4 _ rfl; (with_reducible repeat (first | refine blk_drewN ?_ _ | refine blk_drew ?_ | refine blk_alloc ?_ _)); refine blk_put (cs := #[.int .i64 0, .int .i64 0, .string t168, .string (⟨#[]⟩ : ByteArray), .bool false]) ?_ 3 _ rfl; (with_reducible repeat (first | refine blk_drewN ?_ _ | refine blk_drew ?_ | refine blk_alloc ?_ _)); refine blk_put (cs := #[.int .i64 0, .int .i64 0, .string (⟨#[]⟩ : ByteArray), .string (⟨#[]⟩ : ByteArray), .bool false]) ?_ 2 _ rfl; (with_reducible repeat (first | refine blk_drewN ?_ _ | refine blk_drew ?_ | refine blk_alloc ?_ _)); refine blk_put (cs := #[.int .i64 0, .int .i64 0, .string (⟨#[]⟩ : ByteArray), .string (⟨#[]⟩ : ByteArray), .bool false]) ?_ 1 _ rfl; (with_reducible repeat (first | refine blk_drewN ?_ _ | refine blk_drew ?_ | refine blk_alloc ?_ _)); refine blk_put (cs := #[.int .i64 0, .int .i64 0, .string (⟨#[]⟩ : ByteArray), .string (⟨#[]⟩ : ByteArray), .bool false]) ?_ 0 _ rfl; (with_reducible repeat (first | refine blk_drewN ?_ _ | refine blk_drew ?_ | refine blk_alloc ?_ _)); exact BK170.out⟩, ⟨by repeat (first | (with_reducible first | exact HB.out | apply below_alloc | apply pw_below_drewN | apply below_drew1 | refine below_set ?_ GE170.out) | exact HB.out)⟩⟩
          · rw [if_neg c20] at H
            have c20b0 : decide (1 ≤ a0) = false := decide_eq_false c20
            clear c20
            (first | rw [c20b0] | (simp only [i64_w, i32_w]; rw [c20b0]) | skip)
            have H' := Aside0.mk H
            clear H
            go_wp2
            go_meet
            case rel => exact ⟨_, (false), (by first | rfl | (simp; done) | (simp [*]; done)), H', ⟨by have := HJ5.out; first | omega | exact Nat.le_refl _⟩, ⟨by (with_reducible repeat (first | refine blk_drewN ?_ _ | refine blk_drew ?_ | refine blk_alloc ?_ _)); refine blk_put (cs := #[.int .i64 0, .int .i64 0, .string t168, .string t169, .bool false]) ?_ 4 _ rfl; (with_reducible repeat (first | refine blk_drewN ?_ _ | refine blk_drew ?_ | refine blk_alloc ?_ _)); refine blk_put (cs := #[.int .i64 0, .int .i64 0, .string t168, .string (⟨#[]⟩ : ByteArray), .bool false]) ?_ 3 _ rfl; (with_reducible repeat (first | refine blk_drewN ?_ _ | refine blk_drew ?_ | refine blk_alloc ?_ _)); refine blk_put (cs := #[.int .i64 0, .int .i64 0, .string (⟨#[]⟩ : ByteArray), .string (⟨#[]⟩ : ByteArray), .bool false]) ?_ 2 _ rfl; (with_reducible repeat (first | refine blk_drewN ?_ _ | refine blk_drew ?_ | refine blk_alloc ?_ _)); refine blk_put (cs := #[.int .i64 0, .int .i64 0, .string (⟨#[]⟩ : ByteArray), .string (⟨#[]⟩ : ByteArray), .bool false]) ?_ 1 _ rfl; (with_reducible repeat (first | refine blk_drewN ?_ _ | refine blk_drew ?_ | refine blk_alloc ?_ _)); refine blk_put (cs := #[.int .i64 0, .int .i64 0, .string (⟨#[]⟩ : ByteArray), .string (⟨#[]⟩ : ByteArray), .bool false]) ?_ 0 _ rfl; (with_reducible repeat (first | refine blk_drewN ?_ _ | refine blk_drew ?_ | refine blk_alloc ?_ _)); exact BK170.out⟩, ⟨by repeat (first | (with_reducible first | exact HB.out | apply below_alloc | apply pw_below_drewN | apply below_drew1 | refine below_set ?_ GE170.out) | exact HB.out)⟩⟩
        case rest =>
          clear HC15
          try clear c1
          try clear c2
          try clear p2
          try clear c3
          try clear c8
          try clear c9
          try clear c9b0
          try clear c10
          try clear c10b0
          try clear c11
          try clear c11b0
          try clear c12
          try clear c13
          try clear c20
          try clear c20b0
          try clear c21
          try clear c21b0
          try clear c22
          try clear c22b0
          try clear c23
          try clear hcz19_0
          try clear hcz19_1
          try clear hcz19_2
          try clear hcz19_3
          try clear hcz19_4
          try clear hfz19_0
          try clear hfz19_1
          try clear hfz19_2
          try clear hfz19_3
          try clear hfz19_4
          try clear p2
          obtain ⟨kq, x11_14, rfl, HA, HJ14, BK170, HB⟩ := hcut
          cases kq with
          | zero => exact absurd HA.out (by simp [cooperagelaw4_RecordBounds.j1])
          | succ kj14 =>
            have H := HA.out
            clear HA
            simp only [cooperagelaw4_RecordBounds.j1] at H
            obtain ⟨y171, hy171⟩ : ∃ y_ : List Int, y_ = (([0, 1125899906842624, 1125899906842625, (-1), 5, 5, 5, 5] : List Int)) := ⟨_, rfl⟩
            replace H : ((some (([0, 0, 0, 0, 1099511627776, 1099511627777, (-1099511627776), (-1099511627777)] : List Int) : List Int)).bind fun y174 => (if a2 < 0 then (cooperagelaw4_RecordBounds.j2 kj14 a2 x11_14 y171 y174 true 0 0 t168 t169 a3) else (cooperagelaw4_RecordBounds.j2 kj14 a2 x11_14 y171 y174 (decide (a2 ≥ (y171.length : Int))) 0 0 t168 t169 a3))) = some r := by first | (rw [hy171]; with_reducible exact H) | (have H2_ := (Option.bind_some _ _).symm.trans H; rw [hy171]; with_reducible exact H2_) | (have H2_ := (Option.bind_some _ _).symm.trans H; with_reducible exact H2_) | with_reducible exact H | (rw [hy171]; exact H) | exact H
            have Ny171 := Aside0.mk hy171
            clear hy171
            obtain ⟨y174, hy174⟩ : ∃ y_ : List Int, y_ = (([0, 0, 0, 0, 1099511627776, 1099511627777, (-1099511627776), (-1099511627777)] : List Int)) := ⟨_, rfl⟩
            replace H : (if a2 < 0 then (cooperagelaw4_RecordBounds.j2 kj14 a2 x11_14 y171 y174 true 0 0 t168 t169 a3) else (cooperagelaw4_RecordBounds.j2 kj14 a2 x11_14 y171 y174 (decide (a2 ≥ (y171.length : Int))) 0 0 t168 t169 a3)) = some r := by first | (rw [hy174]; with_reducible exact H) | (have H2_ := (Option.bind_some _ _).symm.trans H; rw [hy174]; with_reducible exact H2_) | (have H2_ := (Option.bind_some _ _).symm.trans H; with_reducible exact H2_) | with_reducible exact H | (rw [hy174]; exact H) | exact H
            have Ny174 := Aside0.mk hy174
            clear hy174
            have HC24 := Aside0.mk H
            clear H
            go_upto_region 8 with (first | ((with_reducible refine gate_dst (N := 58) rfl ?_); (try (refine gate_guard (by rfl) ?_; dsimp only)); refine Kd.R_lit (Kd.int .i64) _ 3 ?hg (N := 58) ?hd (xs := ([0, 1125899906842624, 1125899906842625, (-1), 5, 5, 5, 5] : List Int)) (inner := [.int .i64 0, .int .i64 1125899906842624, .int .i64 1125899906842625, .int .i64 (-1), .int .i64 5, .int .i64 5, .int .i64 5, .int .i64 5]) (ok := fun _ => True) (okp := fun _ => True) ?hr ?hp (fun _ hk => hk) trivial (Below.refl _ _) (Nat.le_refl _) (by simp) ?_; (case hd => rfl); (case hg => rfl); (case hr => first | (go_simp; done) | (go_simp; rfl)); (case hp => exact (Reps.one (show Kd.M (Kd.int .i64) _ _ _ 0 [.int .i64 0] from rfl) (Reps.one (show Kd.M (Kd.int .i64) _ _ _ 1125899906842624 [.int .i64 1125899906842624] from rfl) (Reps.one (show Kd.M (Kd.int .i64) _ _ _ 1125899906842625 [.int .i64 1125899906842625] from rfl) (Reps.one (show Kd.M (Kd.int .i64) _ _ _ (-1) [.int .i64 (-1)] from rfl) (Reps.one (show Kd.M (Kd.int .i64) _ _ _ 5 [.int .i64 5] from rfl) (Reps.one (show Kd.M (Kd.int .i64) _ _ _ 5 [.int .i64 5] from rfl) (Reps.one (show Kd.M (Kd.int .i64) _ _ _ 5 [.int .i64 5] from rfl) (Reps.one (show Kd.M (Kd.int .i64) _ _ _ 5 [.int .i64 5] from rfl) (Reps.none _ _)))))))))); intro v172 w25 ho26 hb hg_ hnew_; clear hg_ hnew_; (first | rw [← Ny171.out] at ho26 | (simp only [Int.reduceToNat] at ho26; rw [← Ny171.out] at ho26)); have n0_ := Aside0.mk (Kd.R_lower ho26 (below_size (by repeat (first | (with_reducible first | exact HB.out | apply below_alloc | apply pw_below_drewN | apply below_drew1 | refine below_set ?_ GE170.out) | exact HB.out)))); have n1_ := Aside0.mk (blk_below (g := gb170) (o := .cells #[.int .i64 0, .int .i64 0, .string t168, .string t169, .bool a3] 25 (0, 0)) (by (with_reducible repeat (first | refine blk_drewN ?_ _ | refine blk_drew ?_ | refine blk_alloc ?_ _)); exact BK170.out) hb); have n2_ := Aside0.mk (below_step (by repeat (first | (with_reducible first | exact HB.out | apply below_alloc | apply pw_below_drewN | apply below_drew1 | refine below_set ?_ GE170.out) | exact HB.out)) hb); clear BK170; clear HB; have HO173 := n0_; have BK170 := n1_; have HB := n2_; clear n0_ n1_ n2_; clear hb ho26) | ((with_reducible refine gate_dst (N := 59) rfl ?_); (try (refine gate_guard (by rfl) ?_; dsimp only)); refine Kd.R_lit (Kd.int .i64) _ 3 ?hg (N := 59) ?hd (xs := ([0, 0, 0, 0, 1099511627776, 1099511627777, (-1099511627776), (-1099511627777)] : List Int)) (inner := [.int .i64 0, .int .i64 0, .int .i64 0, .int .i64 0, .int .i64 1099511627776, .int .i64 1099511627777, .int .i64 (-1099511627776), .int .i64 (-1099511627777)]) (ok := fun _ => True) (okp := fun _ => True) ?hr ?hp (fun _ hk => hk) trivial (Below.refl _ _) (Nat.le_refl _) (by simp) ?_; (case hd => rfl); (case hg => rfl); (case hr => first | (go_simp; done) | (go_simp; rfl)); (case hp => exact (Reps.one (show Kd.M (Kd.int .i64) _ _ _ 0 [.int .i64 0] from rfl) (Reps.one (show Kd.M (Kd.int .i64) _ _ _ 0 [.int .i64 0] from rfl) (Reps.one (show Kd.M (Kd.int .i64) _ _ _ 0 [.int .i64 0] from rfl) (Reps.one (show Kd.M (Kd.int .i64) _ _ _ 0 [.int .i64 0] from rfl) (Reps.one (show Kd.M (Kd.int .i64) _ _ _ 1099511627776 [.int .i64 1099511627776] from rfl) (Reps.one (show Kd.M (Kd.int .i64) _ _ _ 1099511627777 [.int .i64 1099511627777] from rfl) (Reps.one (show Kd.M (Kd.int .i64) _ _ _ (-1099511627776) [.int .i64 (-1099511627776)] from rfl) (Reps.one (show Kd.M (Kd.int .i64) _ _ _ (-1099511627777) [.int .i64 (-1099511627777)] from rfl) (Reps.none _ _)))))))))); intro v175 w27 ho28 hb hg_ hnew_; clear hg_ hnew_; (first | rw [← Ny174.out] at ho28 | (simp only [Int.reduceToNat] at ho28; rw [← Ny174.out] at ho28)); have n0_ := Aside0.mk (Kd.R_elder' (by (with_reducible repeat (first | apply Kd.R_alloc | apply Kd.R_drewN | apply Kd.R_drew)); exact HO173.out) (Kd.R_base ho28) hb); have n1_ := Aside0.mk (Kd.R_lower (Kd.R_new' ho28 (Kd.R_lt (by (with_reducible repeat (first | apply Kd.R_alloc | apply Kd.R_drewN | apply Kd.R_drew)); exact HO173.out))) (below_size (by repeat (first | (with_reducible first | exact HB.out | apply below_alloc | apply pw_below_drewN | apply below_drew1 | refine below_set ?_ GE170.out) | exact HB.out)))); have n2_ := Aside0.mk (blk_below (g := gb170) (o := .cells #[.int .i64 0, .int .i64 0, .string t168, .string t169, .bool a3] 25 (0, 0)) (by (with_reducible repeat (first | refine blk_drewN ?_ _ | refine blk_drew ?_ | refine blk_alloc ?_ _)); exact BK170.out) hb); have n3_ := Aside0.mk (below_step (by repeat (first | (with_reducible first | exact HB.out | apply below_alloc | apply pw_below_drewN | apply below_drew1 | refine below_set ?_ GE170.out) | exact HB.out)) hb); clear HO173; clear BK170; clear HB; have HO173 := n0_; have HO176 := n1_; have BK170 := n2_; have HB := n3_; clear n0_ n1_ n2_ n3_; clear hb ho28))
            (try simp only [Act.put, List.setIfInBounds_toArray, List.set_cons_zero, List.set_cons_succ])
            go_cut [67] (fun v67 wc => ∃ (kq : Nat) (x67_23 : Bool), v67 = .bool x67_23 ∧ Aside0 (cooperagelaw4_RecordBounds.j2 kq a2 x11_14 y171 y174 x67_23 0 0 t168 t169 a3 = some r) ∧ Aside0 (kq ≤ kj14) ∧ Aside0 (Kd.R (Kd.int .i64) 3 wc w.heap.size (fun k_ => some k_ ≠ (v175 : Value).ownBlock) v172 y171) ∧ Aside0 (Kd.R (Kd.int .i64) 3 wc w.heap.size (fun k_ => some k_ ≠ (v172 : Value).ownBlock) v175 y174) ∧ Aside0 (wc.heap[gb170]? = some (.cells #[.int .i64 0, .int .i64 0, .string t168, .string t169, .bool a3] 25 (0, 0))) ∧ Aside0 (Below w.heap.size w wc))
            case first =>
              have H := HC24.out
              clear HC24
              by_cases c29 : a2 < 0
              · rw [if_pos c29] at H
                have c29b0 : decide (a2 < 0) = true := decide_eq_true c29
                clear c29
                (first | rw [c29b0] | (simp only [i64_w, i32_w]; rw [c29b0]) | skip)
                have H' := Aside0.mk H
                clear H
                go_wp2
                go_meet
                case rel => exact ⟨_, (true), (by first | rfl | (simp; done) | (simp [*]; done)), H', ⟨by have := HJ5.out; have := HJ14.out; first | omega | exact Nat.le_refl _⟩, ⟨by (with_reducible repeat (first | apply Kd.R_alloc | apply Kd.R_drewN | apply Kd.R_drew)); exact Kd.R_mono HO173.out (fun _ hk => hk.2)⟩, ⟨by (with_reducible repeat (first | apply Kd.R_alloc | apply Kd.R_drewN | apply Kd.R_drew)); exact Kd.R_mono HO176.out (fun _ hk => hk.2)⟩, ⟨by (with_reducible repeat (first | refine blk_drewN ?_ _ | refine blk_drew ?_ | refine blk_alloc ?_ _)); exact BK170.out⟩, ⟨by repeat (first | (with_reducible first | exact HB.out | apply below_alloc | apply pw_below_drewN | apply below_drew1 | refine below_set ?_ GE170.out) | exact HB.out)⟩⟩
              · rw [if_neg c29] at H
                have c29b0 : decide (a2 < 0) = false := decide_eq_false c29
                clear c29
                (first | rw [c29b0] | (simp only [i64_w, i32_w]; rw [c29b0]) | skip)
                have H' := Aside0.mk H
                clear H
                obtain ⟨Ao30, co30, eo30⟩ := Kd.R_slice HO173.out
                subst eo30
                go_wp2
                go_meet
                case rel => exact ⟨_, (decide (a2 ≥ (y171.length : Int))), (by first | rfl | (simp; done) | (simp [*]; done)), H', ⟨by have := HJ5.out; have := HJ14.out; first | omega | exact Nat.le_refl _⟩, ⟨by (with_reducible repeat (first | apply Kd.R_alloc | apply Kd.R_drewN | apply Kd.R_drew)); exact Kd.R_mono HO173.out (fun _ hk => hk.2)⟩, ⟨by (with_reducible repeat (first | apply Kd.R_alloc | apply Kd.R_drewN | apply Kd.R_drew)); exact Kd.R_mono HO176.out (fun _ hk => hk.2)⟩, ⟨by (with_reducible repeat (first | refine blk_drewN ?_ _ | refine blk_drew ?_ | refine blk_alloc ?_ _)); exact BK170.out⟩, ⟨by repeat (first | (with_reducible first | exact HB.out | apply below_alloc | apply pw_below_drewN | apply below_drew1 | refine below_set ?_ GE170.out) | exact HB.out)⟩⟩
            case rest =>
              clear HC24
              try clear c1
              try clear c2
              try clear p2
              try clear c3
              try clear c8
              try clear c9
              try clear c9b0
              try clear c10
              try clear c10b0
              try clear c11
              try clear c11b0
              try clear c12
              try clear c13
              try clear c20
              try clear c20b0
              try clear c21
              try clear c21b0
              try clear c22
              try clear c22b0
              try clear c23
              try clear c29
              try clear c29b0
              try clear hcz19_0
              try clear hcz19_1
              try clear hcz19_2
              try clear hcz19_3
              try clear hcz19_4
              try clear hfz19_0
              try clear hfz19_1
              try clear hfz19_2
              try clear hfz19_3
              try clear hfz19_4
              try clear p2
              obtain ⟨kq, x67_23, rfl, HA, HJ23, HO_12, HO_13, BK170, HB⟩ := hcut
              cases kq with
              | zero => exact absurd HA.out (by simp [cooperagelaw4_RecordBounds.j2])
              | succ kj23 =>
                have H := HA.out
                clear HA
                simp only [cooperagelaw4_RecordBounds.j2] at H
                by_cases c31 : x67_23 = true
                · subst c31
                  have H1 : (some true) = some r := by rw [if_pos rfl] at H; exact H
                  clear H
                  have H := H1
                  clear H1
                  obtain rfl := Option.some.inj H
                  go_wp2
                  go_ret
                  exact ⟨by first | rfl | (simp [errW_none, errW_some] <;> rfl) | (simp [*, errW_none, errW_some] <;> rfl) | (simp [errW_none, errW_some]; generalize ByteArray.toList _ = l_; cases l_ <;> rfl), by repeat (first | (with_reducible first | exact HB.out | apply below_alloc | apply pw_below_drewN | apply below_drew1 | refine below_set ?_ GE170.out) | exact HB.out)⟩
                · replace c31 := Bool.eq_false_iff.mpr c31
                  subst c31
                  have H1 : (if 0 ≤ a2 then (if a2 < (y171.length : Int) then (if a2 < (y174.length : Int) then (if x11_14 = true then (if a2 = 2 then ((record_Right.f (rd y171 a2) (rd y174 a2) t168 t169 a3).bind fun t179 => (if (t179 == false) = true then ((record_Size.f kj23 (rd y171 a2) (rd y174 a2) t168 t169 a3).bind fun t180 => (some ((decide (t180 > 0)) == false))) else (some false))) else (if a2 = 3 then ((record_Right.f (rd y171 a2) (rd y174 a2) t168 t169 a3).bind fun t181 => (if (t181 == false) = true then ((record_Size.f kj23 (rd y171 a2) (rd y174 a2) t168 t169 a3).bind fun t182 => (some ((decide (t182 > 0)) == false))) else (some false))) else (if a2 = 5 then ((record_Right.f (rd y171 a2) (rd y174 a2) t168 t169 a3).bind fun t183 => (if (t183 == false) = true then ((record_Size.f kj23 (rd y171 a2) (rd y174 a2) t168 t169 a3).bind fun t184 => (some ((decide (t184 > 0)) == false))) else (some false))) else ((record_Right.f (rd y171 a2) (rd y174 a2) t168 t169 a3).bind fun t185 => (if (t185 == (a2 != 7)) = true then ((record_Size.f kj23 (rd y171 a2) (rd y174 a2) t168 t169 a3).bind fun t186 => (some ((decide (t186 > 0)) == (a2 != 7)))) else (some false)))))) else ((record_Right.f (rd y171 a2) (rd y174 a2) t168 t169 a3).bind fun t187 => (if (t187 == false) = true then ((record_Size.f kj23 (rd y171 a2) (rd y174 a2) t168 t169 a3).bind fun t188 => (some ((decide (t188 > 0)) == false))) else (some false)))) else (none)) else (none)) else (none)) = some r := by rw [if_neg (show ¬ (false = true) by decide)] at H; exact H
                  clear H
                  have H := H1
                  clear H1
                  by_cases c32 : 0 ≤ a2
                  · rw [if_pos c32] at H
                    have c32b0 : decide (0 ≤ a2) = true := decide_eq_true c32
                    clear c32
                    by_cases c33 : a2 < (y171.length : Int)
                    · rw [if_pos c33] at H
                      have c33b0 : decide (a2 < (y171.length : Int)) = true := decide_eq_true c33
                      clear c33
                      by_cases c34 : a2 < (y174.length : Int)
                      · rw [if_pos c34] at H
                        have c34b0 : decide (a2 < (y174.length : Int)) = true := decide_eq_true c34
                        clear c34
                        by_cases c35 : x11_14 = true
                        · subst c35
                          have H1 : (if a2 = 2 then ((record_Right.f (rd y171 a2) (rd y174 a2) t168 t169 a3).bind fun t179 => (if (t179 == false) = true then ((record_Size.f kj23 (rd y171 a2) (rd y174 a2) t168 t169 a3).bind fun t180 => (some ((decide (t180 > 0)) == false))) else (some false))) else (if a2 = 3 then ((record_Right.f (rd y171 a2) (rd y174 a2) t168 t169 a3).bind fun t181 => (if (t181 == false) = true then ((record_Size.f kj23 (rd y171 a2) (rd y174 a2) t168 t169 a3).bind fun t182 => (some ((decide (t182 > 0)) == false))) else (some false))) else (if a2 = 5 then ((record_Right.f (rd y171 a2) (rd y174 a2) t168 t169 a3).bind fun t183 => (if (t183 == false) = true then ((record_Size.f kj23 (rd y171 a2) (rd y174 a2) t168 t169 a3).bind fun t184 => (some ((decide (t184 > 0)) == false))) else (some false))) else ((record_Right.f (rd y171 a2) (rd y174 a2) t168 t169 a3).bind fun t185 => (if (t185 == (a2 != 7)) = true then ((record_Size.f kj23 (rd y171 a2) (rd y174 a2) t168 t169 a3).bind fun t186 => (some ((decide (t186 > 0)) == (a2 != 7)))) else (some false)))))) = some r := by rw [if_pos rfl] at H; exact H
                          clear H
                          have H := H1
                          clear H1
                          by_cases c36 : a2 = 2
                          · rw [if_pos c36] at H
                            have c36b0 : (a2 == 2) = true := beq_iff_eq.mpr c36
                            have c36b1 : (a2 != 2) = false := bne_eq_false_iff_eq.mpr c36
                            clear c36
                            replace H := Option.bind_eq_some_iff.mp H
                            obtain ⟨t179, A370, H⟩ := H
                            replace H : (if (t179 == false) = true then ((record_Size.f kj23 (rd y171 a2) (rd y174 a2) t168 t169 a3).bind fun t180 => (some ((decide (t180 > 0)) == false))) else (some false)) = some r := H
                            have A37 := Aside0.mk A370
                            clear A370
                            by_cases c38 : (t179 == false) = true
                            · rw [if_pos c38] at H
                              have c38b0 : (t179 == false) = true := c38
                              (try (have c38b1 : decide (t179 = false) = true := by simpa using c38))
                              (try (have c38b2 : (t179 == false) = true := by simpa using c38))
                              clear c38
                              replace H := Option.bind_eq_some_iff.mp H
                              obtain ⟨t180, A390, H⟩ := H
                              replace H : (some ((decide (t180 > 0)) == false)) = some r := H
                              have A39 := Aside0.mk A390
                              clear A390
                              obtain rfl := Option.some.inj H
                              obtain ⟨Ao40, co40, eo40⟩ := Kd.R_slice HO_12.out
                              subst eo40
                              have p177 : 0 ≤ (a2 : Int) := of_decide_eq_true (by first | (with_reducible assumption) | assumption)
                              have q177 : a2 < (y171.length : Int) := of_decide_eq_true (by first | (with_reducible assumption) | assumption)
                              obtain ⟨ad177, e177, hx177_0⟩ := Kd.at_int (Kd.R_reads' HO_12.out).2.2 a2 p177 q177
                              cases e177
                              replace p177 := eq_true p177
                              replace q177 := eq_true q177
                              have hcz41_0 : wc.cell? ⟨gb170, 0, none⟩ = some (.int .i64 0) := (blk_cell BK170.out 0).trans rfl
                              have hcz41_1 : wc.cell? ⟨gb170, 1, none⟩ = some (.int .i64 0) := (blk_cell BK170.out 1).trans rfl
                              have hcz41_2 : wc.cell? ⟨gb170, 2, none⟩ = some (.string t168) := (blk_cell BK170.out 2).trans rfl
                              have hcz41_3 : wc.cell? ⟨gb170, 3, none⟩ = some (.string t169) := (blk_cell BK170.out 3).trans rfl
                              have hcz41_4 : wc.cell? ⟨gb170, 4, none⟩ = some (.bool a3) := (blk_cell BK170.out 4).trans rfl
                              have hfz41_0 := blk_frozen BK170.out 0
                              have hfz41_1 := blk_frozen BK170.out 1
                              have hfz41_2 := blk_frozen BK170.out 2
                              have hfz41_3 := blk_frozen BK170.out 3
                              have hfz41_4 := blk_frozen BK170.out 4
                              obtain ⟨Ao42, co42, eo42⟩ := Kd.R_slice HO_13.out
                              subst eo42
                              have p178 : 0 ≤ (a2 : Int) := of_decide_eq_true (by first | (with_reducible assumption) | assumption)
                              have q178 : a2 < (y174.length : Int) := of_decide_eq_true (by first | (with_reducible assumption) | assumption)
                              obtain ⟨ad178, e178, hx178_0⟩ := Kd.at_int (Kd.R_reads' HO_13.out).2.2 a2 p178 q178
                              cases e178
                              have hn178_0 : ad178.block ≠ gb170 := Kd.own_blk (Kd.R_ne HO_13.out BK170.out (by decide))
                              replace hx178_0 := (cell_far (p := ⟨gb170, 0, none⟩) (by first | (rw [add_block]; exact hn178_0) | (show (Addr.add _ _).block ≠ _; rw [add_block]; exact hn178_0) | exact hn178_0) (.int .i64 (rd y171 a2))).trans hx178_0
                              clear hn178_0
                              replace p178 := eq_true p178
                              replace q178 := eq_true q178
                              go_wp2_with (first | ((with_reducible refine gate_callee (f := 14) rfl ?_); refine goesL_ (some 96) rfl rfl Try.func14 (by kernel_rfl) rfl #[.agg #[.int .i64 (rd y171 a2), .int .i64 (rd y174 a2), .string t168, .string t169, .bool a3]] rfl (by (try simp only [List.map_toArray, List.map_cons, List.map_nil]); first | done | rfl | (simp only [List.length_drop, List.length_take]; rfl)) ?_; (with_reducible refine (record_Right.calls (rd y171 a2) (rd y174 a2) t168 t169 a3 t179 _ A37.out).mono ?_); rintro e w43 ⟨rfl, hb⟩; refine ⟨_, rfl, ?_⟩; have n0_ := Aside0.mk (Kd.R_below (by (with_reducible repeat (first | apply Kd.R_alloc | apply Kd.R_drewN | apply Kd.R_drew)); exact (Kd.R_mono (Kd.R_far (p := ⟨gb170, 1, none⟩) (Kd.R_far (p := ⟨gb170, 0, none⟩) (Kd.R_types HO_12.out BK170.out (by decide)) (fun _ hk => hk.2) (.int .i64 (rd y171 a2))) (fun _ hk => hk.2) (.int .i64 (rd y174 a2))) (fun _ h_ => h_.1))) hb); have n1_ := Aside0.mk (Kd.R_below (by (with_reducible repeat (first | apply Kd.R_alloc | apply Kd.R_drewN | apply Kd.R_drew)); exact (Kd.R_mono (Kd.R_far (p := ⟨gb170, 1, none⟩) (Kd.R_far (p := ⟨gb170, 0, none⟩) (Kd.R_types HO_13.out BK170.out (by decide)) (fun _ hk => hk.2) (.int .i64 (rd y171 a2))) (fun _ hk => hk.2) (.int .i64 (rd y174 a2))) (fun _ h_ => h_.1))) hb); have n2_ := Aside0.mk (blk_below (g := gb170) (o := .cells #[.int .i64 (rd y171 a2), .int .i64 (rd y174 a2), .string t168, .string t169, .bool a3] 25 (0, 0)) (by (with_reducible repeat (first | refine blk_drewN ?_ _ | refine blk_drew ?_ | refine blk_alloc ?_ _)); refine blk_put (cs := #[.int .i64 (rd y171 a2), .int .i64 0, .string t168, .string t169, .bool a3]) ?_ 1 _ rfl; (with_reducible repeat (first | refine blk_drewN ?_ _ | refine blk_drew ?_ | refine blk_alloc ?_ _)); refine blk_put (cs := #[.int .i64 0, .int .i64 0, .string t168, .string t169, .bool a3]) ?_ 0 _ rfl; (with_reducible repeat (first | refine blk_drewN ?_ _ | refine blk_drew ?_ | refine blk_alloc ?_ _)); exact BK170.out) hb); have n3_ := Aside0.mk (below_step (by repeat (first | (with_reducible first | exact HB.out | apply below_alloc | apply pw_below_drewN | apply below_drew1 | refine below_set ?_ GE170.out) | exact HB.out)) hb); clear HO_12; clear HO_13; clear BK170; clear HB; have HO_12 := n0_; have HO_13 := n1_; have BK170 := n2_; have HB := n3_; clear n0_ n1_ n2_ n3_; (try clear hb); (try clear hb2); (try clear hk); (try clear hi); have hcz44_0 : w43.cell? ⟨gb170, 0, none⟩ = some (.int .i64 (rd y171 a2)) := (blk_cell BK170.out 0).trans rfl; have hcz44_1 : w43.cell? ⟨gb170, 1, none⟩ = some (.int .i64 (rd y174 a2)) := (blk_cell BK170.out 1).trans rfl; have hcz44_2 : w43.cell? ⟨gb170, 2, none⟩ = some (.string t168) := (blk_cell BK170.out 2).trans rfl; have hcz44_3 : w43.cell? ⟨gb170, 3, none⟩ = some (.string t169) := (blk_cell BK170.out 3).trans rfl; have hcz44_4 : w43.cell? ⟨gb170, 4, none⟩ = some (.bool a3) := (blk_cell BK170.out 4).trans rfl; have hfz44_0 := blk_frozen BK170.out 0; have hfz44_1 := blk_frozen BK170.out 1; have hfz44_2 := blk_frozen BK170.out 2; have hfz44_3 := blk_frozen BK170.out 3; have hfz44_4 := blk_frozen BK170.out 4) | (go_at_call 15; (with_reducible refine (record_Size.calls kj23 (rd y171 a2) (rd y174 a2) t168 t169 a3 t180 _ A39.out).mono ?_); rintro e w45 ⟨rfl, hb⟩; have n0_ := Aside0.mk (Kd.R_below (by (with_reducible repeat (first | apply Kd.R_alloc | apply Kd.R_drewN | apply Kd.R_drew)); exact HO_12.out) hb); have n1_ := Aside0.mk (Kd.R_below (by (with_reducible repeat (first | apply Kd.R_alloc | apply Kd.R_drewN | apply Kd.R_drew)); exact HO_13.out) hb); have n2_ := Aside0.mk (blk_below (g := gb170) (o := .cells #[.int .i64 (rd y171 a2), .int .i64 (rd y174 a2), .string t168, .string t169, .bool a3] 25 (0, 0)) (by (with_reducible repeat (first | refine blk_drewN ?_ _ | refine blk_drew ?_ | refine blk_alloc ?_ _)); exact BK170.out) hb); have n3_ := Aside0.mk (below_step (by repeat (first | (with_reducible first | exact HB.out | apply below_alloc | apply pw_below_drewN | apply below_drew1 | refine below_set ?_ GE170.out) | exact HB.out)) hb); clear HO_12; clear HO_13; clear BK170; clear HB; have HO_12 := n0_; have HO_13 := n1_; have BK170 := n2_; have HB := n3_; clear n0_ n1_ n2_ n3_; (try clear hb); (try clear hb2); (try clear hk); (try clear hi)))
                              go_ret
                              exact ⟨by first | rfl | (simp [errW_none, errW_some] <;> rfl) | (simp [*, errW_none, errW_some] <;> rfl) | (simp [errW_none, errW_some]; generalize ByteArray.toList _ = l_; cases l_ <;> rfl), by repeat (first | (with_reducible first | exact HB.out | apply below_alloc | apply pw_below_drewN | apply below_drew1 | refine below_set ?_ GE170.out) | exact HB.out)⟩
                            · rw [if_neg c38] at H
                              have c38b0 : (t179 == false) = false := by simpa using c38
                              (try (have c38b1 : decide (t179 = false) = false := by simpa using c38))
                              (try (have c38b2 : (t179 == false) = false := by simpa using c38))
                              (try (have c38b3 : ¬ (t179 = false) := by simpa using c38))
                              clear c38
                              obtain rfl := Option.some.inj H
                              obtain ⟨Ao46, co46, eo46⟩ := Kd.R_slice HO_12.out
                              subst eo46
                              have p177 : 0 ≤ (a2 : Int) := of_decide_eq_true (by first | (with_reducible assumption) | assumption)
                              have q177 : a2 < (y171.length : Int) := of_decide_eq_true (by first | (with_reducible assumption) | assumption)
                              obtain ⟨ad177, e177, hx177_0⟩ := Kd.at_int (Kd.R_reads' HO_12.out).2.2 a2 p177 q177
                              cases e177
                              replace p177 := eq_true p177
                              replace q177 := eq_true q177
                              have hcz47_0 : wc.cell? ⟨gb170, 0, none⟩ = some (.int .i64 0) := (blk_cell BK170.out 0).trans rfl
                              have hcz47_1 : wc.cell? ⟨gb170, 1, none⟩ = some (.int .i64 0) := (blk_cell BK170.out 1).trans rfl
                              have hcz47_2 : wc.cell? ⟨gb170, 2, none⟩ = some (.string t168) := (blk_cell BK170.out 2).trans rfl
                              have hcz47_3 : wc.cell? ⟨gb170, 3, none⟩ = some (.string t169) := (blk_cell BK170.out 3).trans rfl
                              have hcz47_4 : wc.cell? ⟨gb170, 4, none⟩ = some (.bool a3) := (blk_cell BK170.out 4).trans rfl
                              have hfz47_0 := blk_frozen BK170.out 0
                              have hfz47_1 := blk_frozen BK170.out 1
                              have hfz47_2 := blk_frozen BK170.out 2
                              have hfz47_3 := blk_frozen BK170.out 3
                              have hfz47_4 := blk_frozen BK170.out 4
                              obtain ⟨Ao48, co48, eo48⟩ := Kd.R_slice HO_13.out
                              subst eo48
                              have p178 : 0 ≤ (a2 : Int) := of_decide_eq_true (by first | (with_reducible assumption) | assumption)
                              have q178 : a2 < (y174.length : Int) := of_decide_eq_true (by first | (with_reducible assumption) | assumption)
                              obtain ⟨ad178, e178, hx178_0⟩ := Kd.at_int (Kd.R_reads' HO_13.out).2.2 a2 p178 q178
                              cases e178
                              have hn178_0 : ad178.block ≠ gb170 := Kd.own_blk (Kd.R_ne HO_13.out BK170.out (by decide))
                              replace hx178_0 := (cell_far (p := ⟨gb170, 0, none⟩) (by first | (rw [add_block]; exact hn178_0) | (show (Addr.add _ _).block ≠ _; rw [add_block]; exact hn178_0) | exact hn178_0) (.int .i64 (rd y171 a2))).trans hx178_0
                              clear hn178_0
                              replace p178 := eq_true p178
                              replace q178 := eq_true q178
                              go_wp2_with (first | ((with_reducible refine gate_callee (f := 14) rfl ?_); refine goesL_ (some 96) rfl rfl Try.func14 (by kernel_rfl) rfl #[.agg #[.int .i64 (rd y171 a2), .int .i64 (rd y174 a2), .string t168, .string t169, .bool a3]] rfl (by (try simp only [List.map_toArray, List.map_cons, List.map_nil]); first | done | rfl | (simp only [List.length_drop, List.length_take]; rfl)) ?_; (with_reducible refine (record_Right.calls (rd y171 a2) (rd y174 a2) t168 t169 a3 t179 _ A37.out).mono ?_); rintro e w49 ⟨rfl, hb⟩; refine ⟨_, rfl, ?_⟩; have n0_ := Aside0.mk (Kd.R_below (by (with_reducible repeat (first | apply Kd.R_alloc | apply Kd.R_drewN | apply Kd.R_drew)); exact (Kd.R_mono (Kd.R_far (p := ⟨gb170, 1, none⟩) (Kd.R_far (p := ⟨gb170, 0, none⟩) (Kd.R_types HO_12.out BK170.out (by decide)) (fun _ hk => hk.2) (.int .i64 (rd y171 a2))) (fun _ hk => hk.2) (.int .i64 (rd y174 a2))) (fun _ h_ => h_.1))) hb); have n1_ := Aside0.mk (Kd.R_below (by (with_reducible repeat (first | apply Kd.R_alloc | apply Kd.R_drewN | apply Kd.R_drew)); exact (Kd.R_mono (Kd.R_far (p := ⟨gb170, 1, none⟩) (Kd.R_far (p := ⟨gb170, 0, none⟩) (Kd.R_types HO_13.out BK170.out (by decide)) (fun _ hk => hk.2) (.int .i64 (rd y171 a2))) (fun _ hk => hk.2) (.int .i64 (rd y174 a2))) (fun _ h_ => h_.1))) hb); have n2_ := Aside0.mk (blk_below (g := gb170) (o := .cells #[.int .i64 (rd y171 a2), .int .i64 (rd y174 a2), .string t168, .string t169, .bool a3] 25 (0, 0)) (by (with_reducible repeat (first | refine blk_drewN ?_ _ | refine blk_drew ?_ | refine blk_alloc ?_ _)); refine blk_put (cs := #[.int .i64 (rd y171 a2), .int .i64 0, .string t168, .string t169, .bool a3]) ?_ 1 _ rfl; (with_reducible repeat (first | refine blk_drewN ?_ _ | refine blk_drew ?_ | refine blk_alloc ?_ _)); refine blk_put (cs := #[.int .i64 0, .int .i64 0, .string t168, .string t169, .bool a3]) ?_ 0 _ rfl; (with_reducible repeat (first | refine blk_drewN ?_ _ | refine blk_drew ?_ | refine blk_alloc ?_ _)); exact BK170.out) hb); have n3_ := Aside0.mk (below_step (by repeat (first | (with_reducible first | exact HB.out | apply below_alloc | apply pw_below_drewN | apply below_drew1 | refine below_set ?_ GE170.out) | exact HB.out)) hb); clear HO_12; clear HO_13; clear BK170; clear HB; have HO_12 := n0_; have HO_13 := n1_; have BK170 := n2_; have HB := n3_; clear n0_ n1_ n2_ n3_; (try clear hb); (try clear hb2); (try clear hk); (try clear hi)))
                              go_ret
                              exact ⟨by first | rfl | (simp [errW_none, errW_some] <;> rfl) | (simp [*, errW_none, errW_some] <;> rfl) | (simp [errW_none, errW_some]; generalize ByteArray.toList _ = l_; cases l_ <;> rfl), by repeat (first | (with_reducible first | exact HB.out | apply below_alloc | apply pw_below_drewN | apply below_drew1 | refine below_set ?_ GE170.out) | exact HB.out)⟩
                          · rw [if_neg c36] at H
                            have c36b0 : (a2 == 2) = false := beq_eq_false_iff_ne.mpr c36
                            have c36b1 : (a2 != 2) = true := bne_iff_ne.mpr c36
                            by_cases c50 : a2 = 3
                            · rw [if_pos c50] at H
                              have c50b0 : (a2 == 3) = true := beq_iff_eq.mpr c50
                              have c50b1 : (a2 != 3) = false := bne_eq_false_iff_eq.mpr c50
                              clear c50
                              replace H := Option.bind_eq_some_iff.mp H
                              obtain ⟨t181, A510, H⟩ := H
                              replace H : (if (t181 == false) = true then ((record_Size.f kj23 (rd y171 a2) (rd y174 a2) t168 t169 a3).bind fun t182 => (some ((decide (t182 > 0)) == false))) else (some false)) = some r := H
                              have A51 := Aside0.mk A510
                              clear A510
                              by_cases c52 : (t181 == false) = true
                              · rw [if_pos c52] at H
                                have c52b0 : (t181 == false) = true := c52
                                (try (have c52b1 : decide (t181 = false) = true := by simpa using c52))
                                (try (have c52b2 : (t181 == false) = true := by simpa using c52))
                                clear c52
                                replace H := Option.bind_eq_some_iff.mp H
                                obtain ⟨t182, A530, H⟩ := H
                                replace H : (some ((decide (t182 > 0)) == false)) = some r := H
                                have A53 := Aside0.mk A530
                                clear A530
                                obtain rfl := Option.some.inj H
                                obtain ⟨Ao54, co54, eo54⟩ := Kd.R_slice HO_12.out
                                subst eo54
                                have p177 : 0 ≤ (a2 : Int) := of_decide_eq_true (by first | (with_reducible assumption) | assumption)
                                have q177 : a2 < (y171.length : Int) := of_decide_eq_true (by first | (with_reducible assumption) | assumption)
                                obtain ⟨ad177, e177, hx177_0⟩ := Kd.at_int (Kd.R_reads' HO_12.out).2.2 a2 p177 q177
                                cases e177
                                replace p177 := eq_true p177
                                replace q177 := eq_true q177
                                have hcz55_0 : wc.cell? ⟨gb170, 0, none⟩ = some (.int .i64 0) := (blk_cell BK170.out 0).trans rfl
                                have hcz55_1 : wc.cell? ⟨gb170, 1, none⟩ = some (.int .i64 0) := (blk_cell BK170.out 1).trans rfl
                                have hcz55_2 : wc.cell? ⟨gb170, 2, none⟩ = some (.string t168) := (blk_cell BK170.out 2).trans rfl
                                have hcz55_3 : wc.cell? ⟨gb170, 3, none⟩ = some (.string t169) := (blk_cell BK170.out 3).trans rfl
                                have hcz55_4 : wc.cell? ⟨gb170, 4, none⟩ = some (.bool a3) := (blk_cell BK170.out 4).trans rfl
                                have hfz55_0 := blk_frozen BK170.out 0
                                have hfz55_1 := blk_frozen BK170.out 1
                                have hfz55_2 := blk_frozen BK170.out 2
                                have hfz55_3 := blk_frozen BK170.out 3
                                have hfz55_4 := blk_frozen BK170.out 4
                                obtain ⟨Ao56, co56, eo56⟩ := Kd.R_slice HO_13.out
                                subst eo56
                                have p178 : 0 ≤ (a2 : Int) := of_decide_eq_true (by first | (with_reducible assumption) | assumption)
                                have q178 : a2 < (y174.length : Int) := of_decide_eq_true (by first | (with_reducible assumption) | assumption)
                                obtain ⟨ad178, e178, hx178_0⟩ := Kd.at_int (Kd.R_reads' HO_13.out).2.2 a2 p178 q178
                                cases e178
                                have hn178_0 : ad178.block ≠ gb170 := Kd.own_blk (Kd.R_ne HO_13.out BK170.out (by decide))
                                replace hx178_0 := (cell_far (p := ⟨gb170, 0, none⟩) (by first | (rw [add_block]; exact hn178_0) | (show (Addr.add _ _).block ≠ _; rw [add_block]; exact hn178_0) | exact hn178_0) (.int .i64 (rd y171 a2))).trans hx178_0
                                clear hn178_0
                                replace p178 := eq_true p178
                                replace q178 := eq_true q178
                                go_wp2_with (first | ((with_reducible refine gate_callee (f := 14) rfl ?_); refine goesL_ (some 96) rfl rfl Try.func14 (by kernel_rfl) rfl #[.agg #[.int .i64 (rd y171 a2), .int .i64 (rd y174 a2), .string t168, .string t169, .bool a3]] rfl (by (try simp only [List.map_toArray, List.map_cons, List.map_nil]); first | done | rfl | (simp only [List.length_drop, List.length_take]; rfl)) ?_; (with_reducible refine (record_Right.calls (rd y171 a2) (rd y174 a2) t168 t169 a3 t181 _ A51.out).mono ?_); rintro e w57 ⟨rfl, hb⟩; refine ⟨_, rfl, ?_⟩; have n0_ := Aside0.mk (Kd.R_below (by (with_reducible repeat (first | apply Kd.R_alloc | apply Kd.R_drewN | apply Kd.R_drew)); exact (Kd.R_mono (Kd.R_far (p := ⟨gb170, 1, none⟩) (Kd.R_far (p := ⟨gb170, 0, none⟩) (Kd.R_types HO_12.out BK170.out (by decide)) (fun _ hk => hk.2) (.int .i64 (rd y171 a2))) (fun _ hk => hk.2) (.int .i64 (rd y174 a2))) (fun _ h_ => h_.1))) hb); have n1_ := Aside0.mk (Kd.R_below (by (with_reducible repeat (first | apply Kd.R_alloc | apply Kd.R_drewN | apply Kd.R_drew)); exact (Kd.R_mono (Kd.R_far (p := ⟨gb170, 1, none⟩) (Kd.R_far (p := ⟨gb170, 0, none⟩) (Kd.R_types HO_13.out BK170.out (by decide)) (fun _ hk => hk.2) (.int .i64 (rd y171 a2))) (fun _ hk => hk.2) (.int .i64 (rd y174 a2))) (fun _ h_ => h_.1))) hb); have n2_ := Aside0.mk (blk_below (g := gb170) (o := .cells #[.int .i64 (rd y171 a2), .int .i64 (rd y174 a2), .string t168, .string t169, .bool a3] 25 (0, 0)) (by (with_reducible repeat (first | refine blk_drewN ?_ _ | refine blk_drew ?_ | refine blk_alloc ?_ _)); refine blk_put (cs := #[.int .i64 (rd y171 a2), .int .i64 0, .string t168, .string t169, .bool a3]) ?_ 1 _ rfl; (with_reducible repeat (first | refine blk_drewN ?_ _ | refine blk_drew ?_ | refine blk_alloc ?_ _)); refine blk_put (cs := #[.int .i64 0, .int .i64 0, .string t168, .string t169, .bool a3]) ?_ 0 _ rfl; (with_reducible repeat (first | refine blk_drewN ?_ _ | refine blk_drew ?_ | refine blk_alloc ?_ _)); exact BK170.out) hb); have n3_ := Aside0.mk (below_step (by repeat (first | (with_reducible first | exact HB.out | apply below_alloc | apply pw_below_drewN | apply below_drew1 | refine below_set ?_ GE170.out) | exact HB.out)) hb); clear HO_12; clear HO_13; clear BK170; clear HB; have HO_12 := n0_; have HO_13 := n1_; have BK170 := n2_; have HB := n3_; clear n0_ n1_ n2_ n3_; (try clear hb); (try clear hb2); (try clear hk); (try clear hi); have hcz58_0 : w57.cell? ⟨gb170, 0, none⟩ = some (.int .i64 (rd y171 a2)) := (blk_cell BK170.out 0).trans rfl; have hcz58_1 : w57.cell? ⟨gb170, 1, none⟩ = some (.int .i64 (rd y174 a2)) := (blk_cell BK170.out 1).trans rfl; have hcz58_2 : w57.cell? ⟨gb170, 2, none⟩ = some (.string t168) := (blk_cell BK170.out 2).trans rfl; have hcz58_3 : w57.cell? ⟨gb170, 3, none⟩ = some (.string t169) := (blk_cell BK170.out 3).trans rfl; have hcz58_4 : w57.cell? ⟨gb170, 4, none⟩ = some (.bool a3) := (blk_cell BK170.out 4).trans rfl; have hfz58_0 := blk_frozen BK170.out 0; have hfz58_1 := blk_frozen BK170.out 1; have hfz58_2 := blk_frozen BK170.out 2; have hfz58_3 := blk_frozen BK170.out 3; have hfz58_4 := blk_frozen BK170.out 4) | (go_at_call 15; (with_reducible refine (record_Size.calls kj23 (rd y171 a2) (rd y174 a2) t168 t169 a3 t182 _ A53.out).mono ?_); rintro e w59 ⟨rfl, hb⟩; have n0_ := Aside0.mk (Kd.R_below (by (with_reducible repeat (first | apply Kd.R_alloc | apply Kd.R_drewN | apply Kd.R_drew)); exact HO_12.out) hb); have n1_ := Aside0.mk (Kd.R_below (by (with_reducible repeat (first | apply Kd.R_alloc | apply Kd.R_drewN | apply Kd.R_drew)); exact HO_13.out) hb); have n2_ := Aside0.mk (blk_below (g := gb170) (o := .cells #[.int .i64 (rd y171 a2), .int .i64 (rd y174 a2), .string t168, .string t169, .bool a3] 25 (0, 0)) (by (with_reducible repeat (first | refine blk_drewN ?_ _ | refine blk_drew ?_ | refine blk_alloc ?_ _)); exact BK170.out) hb); have n3_ := Aside0.mk (below_step (by repeat (first | (with_reducible first | exact HB.out | apply below_alloc | apply pw_below_drewN | apply below_drew1 | refine below_set ?_ GE170.out) | exact HB.out)) hb); clear HO_12; clear HO_13; clear BK170; clear HB; have HO_12 := n0_; have HO_13 := n1_; have BK170 := n2_; have HB := n3_; clear n0_ n1_ n2_ n3_; (try clear hb); (try clear hb2); (try clear hk); (try clear hi)))
                                go_ret
                                exact ⟨by first | rfl | (simp [errW_none, errW_some] <;> rfl) | (simp [*, errW_none, errW_some] <;> rfl) | (simp [errW_none, errW_some]; generalize ByteArray.toList _ = l_; cases l_ <;> rfl), by repeat (first | (with_reducible first | exact HB.out | apply below_alloc | apply pw_below_drewN | apply below_drew1 | refine below_set ?_ GE170.out) | exact HB.out)⟩
                              · rw [if_neg c52] at H
                                have c52b0 : (t181 == false) = false := by simpa using c52
                                (try (have c52b1 : decide (t181 = false) = false := by simpa using c52))
                                (try (have c52b2 : (t181 == false) = false := by simpa using c52))
                                (try (have c52b3 : ¬ (t181 = false) := by simpa using c52))
                                clear c52
                                obtain rfl := Option.some.inj H
                                obtain ⟨Ao60, co60, eo60⟩ := Kd.R_slice HO_12.out
                                subst eo60
                                have p177 : 0 ≤ (a2 : Int) := of_decide_eq_true (by first | (with_reducible assumption) | assumption)
                                have q177 : a2 < (y171.length : Int) := of_decide_eq_true (by first | (with_reducible assumption) | assumption)
                                obtain ⟨ad177, e177, hx177_0⟩ := Kd.at_int (Kd.R_reads' HO_12.out).2.2 a2 p177 q177
                                cases e177
                                replace p177 := eq_true p177
                                replace q177 := eq_true q177
                                have hcz61_0 : wc.cell? ⟨gb170, 0, none⟩ = some (.int .i64 0) := (blk_cell BK170.out 0).trans rfl
                                have hcz61_1 : wc.cell? ⟨gb170, 1, none⟩ = some (.int .i64 0) := (blk_cell BK170.out 1).trans rfl
                                have hcz61_2 : wc.cell? ⟨gb170, 2, none⟩ = some (.string t168) := (blk_cell BK170.out 2).trans rfl
                                have hcz61_3 : wc.cell? ⟨gb170, 3, none⟩ = some (.string t169) := (blk_cell BK170.out 3).trans rfl
                                have hcz61_4 : wc.cell? ⟨gb170, 4, none⟩ = some (.bool a3) := (blk_cell BK170.out 4).trans rfl
                                have hfz61_0 := blk_frozen BK170.out 0
                                have hfz61_1 := blk_frozen BK170.out 1
                                have hfz61_2 := blk_frozen BK170.out 2
                                have hfz61_3 := blk_frozen BK170.out 3
                                have hfz61_4 := blk_frozen BK170.out 4
                                obtain ⟨Ao62, co62, eo62⟩ := Kd.R_slice HO_13.out
                                subst eo62
                                have p178 : 0 ≤ (a2 : Int) := of_decide_eq_true (by first | (with_reducible assumption) | assumption)
                                have q178 : a2 < (y174.length : Int) := of_decide_eq_true (by first | (with_reducible assumption) | assumption)
                                obtain ⟨ad178, e178, hx178_0⟩ := Kd.at_int (Kd.R_reads' HO_13.out).2.2 a2 p178 q178
                                cases e178
                                have hn178_0 : ad178.block ≠ gb170 := Kd.own_blk (Kd.R_ne HO_13.out BK170.out (by decide))
                                replace hx178_0 := (cell_far (p := ⟨gb170, 0, none⟩) (by first | (rw [add_block]; exact hn178_0) | (show (Addr.add _ _).block ≠ _; rw [add_block]; exact hn178_0) | exact hn178_0) (.int .i64 (rd y171 a2))).trans hx178_0
                                clear hn178_0
                                replace p178 := eq_true p178
                                replace q178 := eq_true q178
                                go_wp2_with (first | ((with_reducible refine gate_callee (f := 14) rfl ?_); refine goesL_ (some 96) rfl rfl Try.func14 (by kernel_rfl) rfl #[.agg #[.int .i64 (rd y171 a2), .int .i64 (rd y174 a2), .string t168, .string t169, .bool a3]] rfl (by (try simp only [List.map_toArray, List.map_cons, List.map_nil]); first | done | rfl | (simp only [List.length_drop, List.length_take]; rfl)) ?_; (with_reducible refine (record_Right.calls (rd y171 a2) (rd y174 a2) t168 t169 a3 t181 _ A51.out).mono ?_); rintro e w63 ⟨rfl, hb⟩; refine ⟨_, rfl, ?_⟩; have n0_ := Aside0.mk (Kd.R_below (by (with_reducible repeat (first | apply Kd.R_alloc | apply Kd.R_drewN | apply Kd.R_drew)); exact (Kd.R_mono (Kd.R_far (p := ⟨gb170, 1, none⟩) (Kd.R_far (p := ⟨gb170, 0, none⟩) (Kd.R_types HO_12.out BK170.out (by decide)) (fun _ hk => hk.2) (.int .i64 (rd y171 a2))) (fun _ hk => hk.2) (.int .i64 (rd y174 a2))) (fun _ h_ => h_.1))) hb); have n1_ := Aside0.mk (Kd.R_below (by (with_reducible repeat (first | apply Kd.R_alloc | apply Kd.R_drewN | apply Kd.R_drew)); exact (Kd.R_mono (Kd.R_far (p := ⟨gb170, 1, none⟩) (Kd.R_far (p := ⟨gb170, 0, none⟩) (Kd.R_types HO_13.out BK170.out (by decide)) (fun _ hk => hk.2) (.int .i64 (rd y171 a2))) (fun _ hk => hk.2) (.int .i64 (rd y174 a2))) (fun _ h_ => h_.1))) hb); have n2_ := Aside0.mk (blk_below (g := gb170) (o := .cells #[.int .i64 (rd y171 a2), .int .i64 (rd y174 a2), .string t168, .string t169, .bool a3] 25 (0, 0)) (by (with_reducible repeat (first | refine blk_drewN ?_ _ | refine blk_drew ?_ | refine blk_alloc ?_ _)); refine blk_put (cs := #[.int .i64 (rd y171 a2), .int .i64 0, .string t168, .string t169, .bool a3]) ?_ 1 _ rfl; (with_reducible repeat (first | refine blk_drewN ?_ _ | refine blk_drew ?_ | refine blk_alloc ?_ _)); refine blk_put (cs := #[.int .i64 0, .int .i64 0, .string t168, .string t169, .bool a3]) ?_ 0 _ rfl; (with_reducible repeat (first | refine blk_drewN ?_ _ | refine blk_drew ?_ | refine blk_alloc ?_ _)); exact BK170.out) hb); have n3_ := Aside0.mk (below_step (by repeat (first | (with_reducible first | exact HB.out | apply below_alloc | apply pw_below_drewN | apply below_drew1 | refine below_set ?_ GE170.out) | exact HB.out)) hb); clear HO_12; clear HO_13; clear BK170; clear HB; have HO_12 := n0_; have HO_13 := n1_; have BK170 := n2_; have HB := n3_; clear n0_ n1_ n2_ n3_; (try clear hb); (try clear hb2); (try clear hk); (try clear hi)))
                                go_ret
                                exact ⟨by first | rfl | (simp [errW_none, errW_some] <;> rfl) | (simp [*, errW_none, errW_some] <;> rfl) | (simp [errW_none, errW_some]; generalize ByteArray.toList _ = l_; cases l_ <;> rfl), by repeat (first | (with_reducible first | exact HB.out | apply below_alloc | apply pw_below_drewN | apply below_drew1 | refine below_set ?_ GE170.out) | exact HB.out)⟩
                            · rw [if_neg c50] at H
                              have c50b0 : (a2 == 3) = false := beq_eq_false_iff_ne.mpr c50
                              have c50b1 : (a2 != 3) = true := bne_iff_ne.mpr c50
                              by_cases c64 : a2 = 5
                              · rw [if_pos c64] at H
                                have c64b0 : (a2 == 5) = true := beq_iff_eq.mpr c64
                                have c64b1 : (a2 != 5) = false := bne_eq_false_iff_eq.mpr c64
                                clear c64
                                replace H := Option.bind_eq_some_iff.mp H
                                obtain ⟨t183, A650, H⟩ := H
                                replace H : (if (t183 == false) = true then ((record_Size.f kj23 (rd y171 a2) (rd y174 a2) t168 t169 a3).bind fun t184 => (some ((decide (t184 > 0)) == false))) else (some false)) = some r := H
                                have A65 := Aside0.mk A650
                                clear A650
                                by_cases c66 : (t183 == false) = true
                                · rw [if_pos c66] at H
                                  have c66b0 : (t183 == false) = true := c66
                                  (try (have c66b1 : decide (t183 = false) = true := by simpa using c66))
                                  (try (have c66b2 : (t183 == false) = true := by simpa using c66))
                                  clear c66
                                  replace H := Option.bind_eq_some_iff.mp H
                                  obtain ⟨t184, A670, H⟩ := H
                                  replace H : (some ((decide (t184 > 0)) == false)) = some r := H
                                  have A67 := Aside0.mk A670
                                  clear A670
                                  obtain rfl := Option.some.inj H
                                  obtain ⟨Ao68, co68, eo68⟩ := Kd.R_slice HO_12.out
                                  subst eo68
                                  have p177 : 0 ≤ (a2 : Int) := of_decide_eq_true (by first | (with_reducible assumption) | assumption)
                                  have q177 : a2 < (y171.length : Int) := of_decide_eq_true (by first | (with_reducible assumption) | assumption)
                                  obtain ⟨ad177, e177, hx177_0⟩ := Kd.at_int (Kd.R_reads' HO_12.out).2.2 a2 p177 q177
                                  cases e177
                                  replace p177 := eq_true p177
                                  replace q177 := eq_true q177
                                  have hcz69_0 : wc.cell? ⟨gb170, 0, none⟩ = some (.int .i64 0) := (blk_cell BK170.out 0).trans rfl
                                  have hcz69_1 : wc.cell? ⟨gb170, 1, none⟩ = some (.int .i64 0) := (blk_cell BK170.out 1).trans rfl
                                  have hcz69_2 : wc.cell? ⟨gb170, 2, none⟩ = some (.string t168) := (blk_cell BK170.out 2).trans rfl
                                  have hcz69_3 : wc.cell? ⟨gb170, 3, none⟩ = some (.string t169) := (blk_cell BK170.out 3).trans rfl
                                  have hcz69_4 : wc.cell? ⟨gb170, 4, none⟩ = some (.bool a3) := (blk_cell BK170.out 4).trans rfl
                                  have hfz69_0 := blk_frozen BK170.out 0
                                  have hfz69_1 := blk_frozen BK170.out 1
                                  have hfz69_2 := blk_frozen BK170.out 2
                                  have hfz69_3 := blk_frozen BK170.out 3
                                  have hfz69_4 := blk_frozen BK170.out 4
                                  obtain ⟨Ao70, co70, eo70⟩ := Kd.R_slice HO_13.out
                                  subst eo70
                                  have p178 : 0 ≤ (a2 : Int) := of_decide_eq_true (by first | (with_reducible assumption) | assumption)
                                  have q178 : a2 < (y174.length : Int) := of_decide_eq_true (by first | (with_reducible assumption) | assumption)
                                  obtain ⟨ad178, e178, hx178_0⟩ := Kd.at_int (Kd.R_reads' HO_13.out).2.2 a2 p178 q178
                                  cases e178
                                  have hn178_0 : ad178.block ≠ gb170 := Kd.own_blk (Kd.R_ne HO_13.out BK170.out (by decide))
                                  replace hx178_0 := (cell_far (p := ⟨gb170, 0, none⟩) (by first | (rw [add_block]; exact hn178_0) | (show (Addr.add _ _).block ≠ _; rw [add_block]; exact hn178_0) | exact hn178_0) (.int .i64 (rd y171 a2))).trans hx178_0
                                  clear hn178_0
                                  replace p178 := eq_true p178
                                  replace q178 := eq_true q178
                                  go_wp2_with (first | ((with_reducible refine gate_callee (f := 14) rfl ?_); refine goesL_ (some 96) rfl rfl Try.func14 (by kernel_rfl) rfl #[.agg #[.int .i64 (rd y171 a2), .int .i64 (rd y174 a2), .string t168, .string t169, .bool a3]] rfl (by (try simp only [List.map_toArray, List.map_cons, List.map_nil]); first | done | rfl | (simp only [List.length_drop, List.length_take]; rfl)) ?_; (with_reducible refine (record_Right.calls (rd y171 a2) (rd y174 a2) t168 t169 a3 t183 _ A65.out).mono ?_); rintro e w71 ⟨rfl, hb⟩; refine ⟨_, rfl, ?_⟩; have n0_ := Aside0.mk (Kd.R_below (by (with_reducible repeat (first | apply Kd.R_alloc | apply Kd.R_drewN | apply Kd.R_drew)); exact (Kd.R_mono (Kd.R_far (p := ⟨gb170, 1, none⟩) (Kd.R_far (p := ⟨gb170, 0, none⟩) (Kd.R_types HO_12.out BK170.out (by decide)) (fun _ hk => hk.2) (.int .i64 (rd y171 a2))) (fun _ hk => hk.2) (.int .i64 (rd y174 a2))) (fun _ h_ => h_.1))) hb); have n1_ := Aside0.mk (Kd.R_below (by (with_reducible repeat (first | apply Kd.R_alloc | apply Kd.R_drewN | apply Kd.R_drew)); exact (Kd.R_mono (Kd.R_far (p := ⟨gb170, 1, none⟩) (Kd.R_far (p := ⟨gb170, 0, none⟩) (Kd.R_types HO_13.out BK170.out (by decide)) (fun _ hk => hk.2) (.int .i64 (rd y171 a2))) (fun _ hk => hk.2) (.int .i64 (rd y174 a2))) (fun _ h_ => h_.1))) hb); have n2_ := Aside0.mk (blk_below (g := gb170) (o := .cells #[.int .i64 (rd y171 a2), .int .i64 (rd y174 a2), .string t168, .string t169, .bool a3] 25 (0, 0)) (by (with_reducible repeat (first | refine blk_drewN ?_ _ | refine blk_drew ?_ | refine blk_alloc ?_ _)); refine blk_put (cs := #[.int .i64 (rd y171 a2), .int .i64 0, .string t168, .string t169, .bool a3]) ?_ 1 _ rfl; (with_reducible repeat (first | refine blk_drewN ?_ _ | refine blk_drew ?_ | refine blk_alloc ?_ _)); refine blk_put (cs := #[.int .i64 0, .int .i64 0, .string t168, .string t169, .bool a3]) ?_ 0 _ rfl; (with_reducible repeat (first | refine blk_drewN ?_ _ | refine blk_drew ?_ | refine blk_alloc ?_ _)); exact BK170.out) hb); have n3_ := Aside0.mk (below_step (by repeat (first | (with_reducible first | exact HB.out | apply below_alloc | apply pw_below_drewN | apply below_drew1 | refine below_set ?_ GE170.out) | exact HB.out)) hb); clear HO_12; clear HO_13; clear BK170; clear HB; have HO_12 := n0_; have HO_13 := n1_; have BK170 := n2_; have HB := n3_; clear n0_ n1_ n2_ n3_; (try clear hb); (try clear hb2); (try clear hk); (try clear hi); have hcz72_0 : w71.cell? ⟨gb170, 0, none⟩ = some (.int .i64 (rd y171 a2)) := (blk_cell BK170.out 0).trans rfl; have hcz72_1 : w71.cell? ⟨gb170, 1, none⟩ = some (.int .i64 (rd y174 a2)) := (blk_cell BK170.out 1).trans rfl; have hcz72_2 : w71.cell? ⟨gb170, 2, none⟩ = some (.string t168) := (blk_cell BK170.out 2).trans rfl; have hcz72_3 : w71.cell? ⟨gb170, 3, none⟩ = some (.string t169) := (blk_cell BK170.out 3).trans rfl; have hcz72_4 : w71.cell? ⟨gb170, 4, none⟩ = some (.bool a3) := (blk_cell BK170.out 4).trans rfl; have hfz72_0 := blk_frozen BK170.out 0; have hfz72_1 := blk_frozen BK170.out 1; have hfz72_2 := blk_frozen BK170.out 2; have hfz72_3 := blk_frozen BK170.out 3; have hfz72_4 := blk_frozen BK170.out 4) | (go_at_call 15; (with_reducible refine (record_Size.calls kj23 (rd y171 a2) (rd y174 a2) t168 t169 a3 t184 _ A67.out).mono ?_); rintro e w73 ⟨rfl, hb⟩; have n0_ := Aside0.mk (Kd.R_below (by (with_reducible repeat (first | apply Kd.R_alloc | apply Kd.R_drewN | apply Kd.R_drew)); exact HO_12.out) hb); have n1_ := Aside0.mk (Kd.R_below (by (with_reducible repeat (first | apply Kd.R_alloc | apply Kd.R_drewN | apply Kd.R_drew)); exact HO_13.out) hb); have n2_ := Aside0.mk (blk_below (g := gb170) (o := .cells #[.int .i64 (rd y171 a2), .int .i64 (rd y174 a2), .string t168, .string t169, .bool a3] 25 (0, 0)) (by (with_reducible repeat (first | refine blk_drewN ?_ _ | refine blk_drew ?_ | refine blk_alloc ?_ _)); exact BK170.out) hb); have n3_ := Aside0.mk (below_step (by repeat (first | (with_reducible first | exact HB.out | apply below_alloc | apply pw_below_drewN | apply below_drew1 | refine below_set ?_ GE170.out) | exact HB.out)) hb); clear HO_12; clear HO_13; clear BK170; clear HB; have HO_12 := n0_; have HO_13 := n1_; have BK170 := n2_; have HB := n3_; clear n0_ n1_ n2_ n3_; (try clear hb); (try clear hb2); (try clear hk); (try clear hi)))
                                  go_ret
                                  exact ⟨by first | rfl | (simp [errW_none, errW_some] <;> rfl) | (simp [*, errW_none, errW_some] <;> rfl) | (simp [errW_none, errW_some]; generalize ByteArray.toList _ = l_; cases l_ <;> rfl), by repeat (first | (with_reducible first | exact HB.out | apply below_alloc | apply pw_below_drewN | apply below_drew1 | refine below_set ?_ GE170.out) | exact HB.out)⟩
                                · rw [if_neg c66] at H
                                  have c66b0 : (t183 == false) = false := by simpa using c66
                                  (try (have c66b1 : decide (t183 = false) = false := by simpa using c66))
                                  (try (have c66b2 : (t183 == false) = false := by simpa using c66))
                                  (try (have c66b3 : ¬ (t183 = false) := by simpa using c66))
                                  clear c66
                                  obtain rfl := Option.some.inj H
                                  obtain ⟨Ao74, co74, eo74⟩ := Kd.R_slice HO_12.out
                                  subst eo74
                                  have p177 : 0 ≤ (a2 : Int) := of_decide_eq_true (by first | (with_reducible assumption) | assumption)
                                  have q177 : a2 < (y171.length : Int) := of_decide_eq_true (by first | (with_reducible assumption) | assumption)
                                  obtain ⟨ad177, e177, hx177_0⟩ := Kd.at_int (Kd.R_reads' HO_12.out).2.2 a2 p177 q177
                                  cases e177
                                  replace p177 := eq_true p177
                                  replace q177 := eq_true q177
                                  have hcz75_0 : wc.cell? ⟨gb170, 0, none⟩ = some (.int .i64 0) := (blk_cell BK170.out 0).trans rfl
                                  have hcz75_1 : wc.cell? ⟨gb170, 1, none⟩ = some (.int .i64 0) := (blk_cell BK170.out 1).trans rfl
                                  have hcz75_2 : wc.cell? ⟨gb170, 2, none⟩ = some (.string t168) := (blk_cell BK170.out 2).trans rfl
                                  have hcz75_3 : wc.cell? ⟨gb170, 3, none⟩ = some (.string t169) := (blk_cell BK170.out 3).trans rfl
                                  have hcz75_4 : wc.cell? ⟨gb170, 4, none⟩ = some (.bool a3) := (blk_cell BK170.out 4).trans rfl
                                  have hfz75_0 := blk_frozen BK170.out 0
                                  have hfz75_1 := blk_frozen BK170.out 1
                                  have hfz75_2 := blk_frozen BK170.out 2
                                  have hfz75_3 := blk_frozen BK170.out 3
                                  have hfz75_4 := blk_frozen BK170.out 4
                                  obtain ⟨Ao76, co76, eo76⟩ := Kd.R_slice HO_13.out
                                  subst eo76
                                  have p178 : 0 ≤ (a2 : Int) := of_decide_eq_true (by first | (with_reducible assumption) | assumption)
                                  have q178 : a2 < (y174.length : Int) := of_decide_eq_true (by first | (with_reducible assumption) | assumption)
                                  obtain ⟨ad178, e178, hx178_0⟩ := Kd.at_int (Kd.R_reads' HO_13.out).2.2 a2 p178 q178
                                  cases e178
                                  have hn178_0 : ad178.block ≠ gb170 := Kd.own_blk (Kd.R_ne HO_13.out BK170.out (by decide))
                                  replace hx178_0 := (cell_far (p := ⟨gb170, 0, none⟩) (by first | (rw [add_block]; exact hn178_0) | (show (Addr.add _ _).block ≠ _; rw [add_block]; exact hn178_0) | exact hn178_0) (.int .i64 (rd y171 a2))).trans hx178_0
                                  clear hn178_0
                                  replace p178 := eq_true p178
                                  replace q178 := eq_true q178
                                  go_wp2_with (first | ((with_reducible refine gate_callee (f := 14) rfl ?_); refine goesL_ (some 96) rfl rfl Try.func14 (by kernel_rfl) rfl #[.agg #[.int .i64 (rd y171 a2), .int .i64 (rd y174 a2), .string t168, .string t169, .bool a3]] rfl (by (try simp only [List.map_toArray, List.map_cons, List.map_nil]); first | done | rfl | (simp only [List.length_drop, List.length_take]; rfl)) ?_; (with_reducible refine (record_Right.calls (rd y171 a2) (rd y174 a2) t168 t169 a3 t183 _ A65.out).mono ?_); rintro e w77 ⟨rfl, hb⟩; refine ⟨_, rfl, ?_⟩; have n0_ := Aside0.mk (Kd.R_below (by (with_reducible repeat (first | apply Kd.R_alloc | apply Kd.R_drewN | apply Kd.R_drew)); exact (Kd.R_mono (Kd.R_far (p := ⟨gb170, 1, none⟩) (Kd.R_far (p := ⟨gb170, 0, none⟩) (Kd.R_types HO_12.out BK170.out (by decide)) (fun _ hk => hk.2) (.int .i64 (rd y171 a2))) (fun _ hk => hk.2) (.int .i64 (rd y174 a2))) (fun _ h_ => h_.1))) hb); have n1_ := Aside0.mk (Kd.R_below (by (with_reducible repeat (first | apply Kd.R_alloc | apply Kd.R_drewN | apply Kd.R_drew)); exact (Kd.R_mono (Kd.R_far (p := ⟨gb170, 1, none⟩) (Kd.R_far (p := ⟨gb170, 0, none⟩) (Kd.R_types HO_13.out BK170.out (by decide)) (fun _ hk => hk.2) (.int .i64 (rd y171 a2))) (fun _ hk => hk.2) (.int .i64 (rd y174 a2))) (fun _ h_ => h_.1))) hb); have n2_ := Aside0.mk (blk_below (g := gb170) (o := .cells #[.int .i64 (rd y171 a2), .int .i64 (rd y174 a2), .string t168, .string t169, .bool a3] 25 (0, 0)) (by (with_reducible repeat (first | refine blk_drewN ?_ _ | refine blk_drew ?_ | refine blk_alloc ?_ _)); refine blk_put (cs := #[.int .i64 (rd y171 a2), .int .i64 0, .string t168, .string t169, .bool a3]) ?_ 1 _ rfl; (with_reducible repeat (first | refine blk_drewN ?_ _ | refine blk_drew ?_ | refine blk_alloc ?_ _)); refine blk_put (cs := #[.int .i64 0, .int .i64 0, .string t168, .string t169, .bool a3]) ?_ 0 _ rfl; (with_reducible repeat (first | refine blk_drewN ?_ _ | refine blk_drew ?_ | refine blk_alloc ?_ _)); exact BK170.out) hb); have n3_ := Aside0.mk (below_step (by repeat (first | (with_reducible first | exact HB.out | apply below_alloc | apply pw_below_drewN | apply below_drew1 | refine below_set ?_ GE170.out) | exact HB.out)) hb); clear HO_12; clear HO_13; clear BK170; clear HB; have HO_12 := n0_; have HO_13 := n1_; have BK170 := n2_; have HB := n3_; clear n0_ n1_ n2_ n3_; (try clear hb); (try clear hb2); (try clear hk); (try clear hi)))
                                  go_ret
                                  exact ⟨by first | rfl | (simp [errW_none, errW_some] <;> rfl) | (simp [*, errW_none, errW_some] <;> rfl) | (simp [errW_none, errW_some]; generalize ByteArray.toList _ = l_; cases l_ <;> rfl), by repeat (first | (with_reducible first | exact HB.out | apply below_alloc | apply pw_below_drewN | apply below_drew1 | refine below_set ?_ GE170.out) | exact HB.out)⟩
                              · rw [if_neg c64] at H
                                have c64b0 : (a2 == 5) = false := beq_eq_false_iff_ne.mpr c64
                                have c64b1 : (a2 != 5) = true := bne_iff_ne.mpr c64
                                replace H := Option.bind_eq_some_iff.mp H
                                obtain ⟨t185, A780, H⟩ := H
                                replace H : (if (t185 == (a2 != 7)) = true then ((record_Size.f kj23 (rd y171 a2) (rd y174 a2) t168 t169 a3).bind fun t186 => (some ((decide (t186 > 0)) == (a2 != 7)))) else (some false)) = some r := H
                                have A78 := Aside0.mk A780
                                clear A780
                                by_cases c79 : (t185 == (a2 != 7)) = true
                                · rw [if_pos c79] at H
                                  have c79b0 : (t185 == (a2 != 7)) = true := c79
                                  (try (have c79b1 : decide (t185 = (a2 != 7)) = true := by simpa using c79))
                                  (try (have c79b2 : (t185 == (a2 != 7)) = true := by simpa using c79))
                                  clear c79
                                  replace H := Option.bind_eq_some_iff.mp H
                                  obtain ⟨t186, A800, H⟩ := H
                                  replace H : (some ((decide (t186 > 0)) == (a2 != 7))) = some r := H
                                  have A80 := Aside0.mk A800
                                  clear A800
                                  obtain rfl := Option.some.inj H
                                  obtain ⟨Ao81, co81, eo81⟩ := Kd.R_slice HO_12.out
                                  subst eo81
                                  have p177 : 0 ≤ (a2 : Int) := of_decide_eq_true (by first | (with_reducible assumption) | assumption)
                                  have q177 : a2 < (y171.length : Int) := of_decide_eq_true (by first | (with_reducible assumption) | assumption)
                                  obtain ⟨ad177, e177, hx177_0⟩ := Kd.at_int (Kd.R_reads' HO_12.out).2.2 a2 p177 q177
                                  cases e177
                                  replace p177 := eq_true p177
                                  replace q177 := eq_true q177
                                  have hcz82_0 : wc.cell? ⟨gb170, 0, none⟩ = some (.int .i64 0) := (blk_cell BK170.out 0).trans rfl
                                  have hcz82_1 : wc.cell? ⟨gb170, 1, none⟩ = some (.int .i64 0) := (blk_cell BK170.out 1).trans rfl
                                  have hcz82_2 : wc.cell? ⟨gb170, 2, none⟩ = some (.string t168) := (blk_cell BK170.out 2).trans rfl
                                  have hcz82_3 : wc.cell? ⟨gb170, 3, none⟩ = some (.string t169) := (blk_cell BK170.out 3).trans rfl
                                  have hcz82_4 : wc.cell? ⟨gb170, 4, none⟩ = some (.bool a3) := (blk_cell BK170.out 4).trans rfl
                                  have hfz82_0 := blk_frozen BK170.out 0
                                  have hfz82_1 := blk_frozen BK170.out 1
                                  have hfz82_2 := blk_frozen BK170.out 2
                                  have hfz82_3 := blk_frozen BK170.out 3
                                  have hfz82_4 := blk_frozen BK170.out 4
                                  obtain ⟨Ao83, co83, eo83⟩ := Kd.R_slice HO_13.out
                                  subst eo83
                                  have p178 : 0 ≤ (a2 : Int) := of_decide_eq_true (by first | (with_reducible assumption) | assumption)
                                  have q178 : a2 < (y174.length : Int) := of_decide_eq_true (by first | (with_reducible assumption) | assumption)
                                  obtain ⟨ad178, e178, hx178_0⟩ := Kd.at_int (Kd.R_reads' HO_13.out).2.2 a2 p178 q178
                                  cases e178
                                  have hn178_0 : ad178.block ≠ gb170 := Kd.own_blk (Kd.R_ne HO_13.out BK170.out (by decide))
                                  replace hx178_0 := (cell_far (p := ⟨gb170, 0, none⟩) (by first | (rw [add_block]; exact hn178_0) | (show (Addr.add _ _).block ≠ _; rw [add_block]; exact hn178_0) | exact hn178_0) (.int .i64 (rd y171 a2))).trans hx178_0
                                  clear hn178_0
                                  replace p178 := eq_true p178
                                  replace q178 := eq_true q178
                                  go_wp2_with (first | ((with_reducible refine gate_callee (f := 14) rfl ?_); refine goesL_ (some 96) rfl rfl Try.func14 (by kernel_rfl) rfl #[.agg #[.int .i64 (rd y171 a2), .int .i64 (rd y174 a2), .string t168, .string t169, .bool a3]] rfl (by (try simp only [List.map_toArray, List.map_cons, List.map_nil]); first | done | rfl | (simp only [List.length_drop, List.length_take]; rfl)) ?_; (with_reducible refine (record_Right.calls (rd y171 a2) (rd y174 a2) t168 t169 a3 t185 _ A78.out).mono ?_); rintro e w84 ⟨rfl, hb⟩; refine ⟨_, rfl, ?_⟩; have n0_ := Aside0.mk (Kd.R_below (by (with_reducible repeat (first | apply Kd.R_alloc | apply Kd.R_drewN | apply Kd.R_drew)); exact (Kd.R_mono (Kd.R_far (p := ⟨gb170, 1, none⟩) (Kd.R_far (p := ⟨gb170, 0, none⟩) (Kd.R_types HO_12.out BK170.out (by decide)) (fun _ hk => hk.2) (.int .i64 (rd y171 a2))) (fun _ hk => hk.2) (.int .i64 (rd y174 a2))) (fun _ h_ => h_.1))) hb); have n1_ := Aside0.mk (Kd.R_below (by (with_reducible repeat (first | apply Kd.R_alloc | apply Kd.R_drewN | apply Kd.R_drew)); exact (Kd.R_mono (Kd.R_far (p := ⟨gb170, 1, none⟩) (Kd.R_far (p := ⟨gb170, 0, none⟩) (Kd.R_types HO_13.out BK170.out (by decide)) (fun _ hk => hk.2) (.int .i64 (rd y171 a2))) (fun _ hk => hk.2) (.int .i64 (rd y174 a2))) (fun _ h_ => h_.1))) hb); have n2_ := Aside0.mk (blk_below (g := gb170) (o := .cells #[.int .i64 (rd y171 a2), .int .i64 (rd y174 a2), .string t168, .string t169, .bool a3] 25 (0, 0)) (by (with_reducible repeat (first | refine blk_drewN ?_ _ | refine blk_drew ?_ | refine blk_alloc ?_ _)); refine blk_put (cs := #[.int .i64 (rd y171 a2), .int .i64 0, .string t168, .string t169, .bool a3]) ?_ 1 _ rfl; (with_reducible repeat (first | refine blk_drewN ?_ _ | refine blk_drew ?_ | refine blk_alloc ?_ _)); refine blk_put (cs := #[.int .i64 0, .int .i64 0, .string t168, .string t169, .bool a3]) ?_ 0 _ rfl; (with_reducible repeat (first | refine blk_drewN ?_ _ | refine blk_drew ?_ | refine blk_alloc ?_ _)); exact BK170.out) hb); have n3_ := Aside0.mk (below_step (by repeat (first | (with_reducible first | exact HB.out | apply below_alloc | apply pw_below_drewN | apply below_drew1 | refine below_set ?_ GE170.out) | exact HB.out)) hb); clear HO_12; clear HO_13; clear BK170; clear HB; have HO_12 := n0_; have HO_13 := n1_; have BK170 := n2_; have HB := n3_; clear n0_ n1_ n2_ n3_; (try clear hb); (try clear hb2); (try clear hk); (try clear hi); have hcz85_0 : w84.cell? ⟨gb170, 0, none⟩ = some (.int .i64 (rd y171 a2)) := (blk_cell BK170.out 0).trans rfl; have hcz85_1 : w84.cell? ⟨gb170, 1, none⟩ = some (.int .i64 (rd y174 a2)) := (blk_cell BK170.out 1).trans rfl; have hcz85_2 : w84.cell? ⟨gb170, 2, none⟩ = some (.string t168) := (blk_cell BK170.out 2).trans rfl; have hcz85_3 : w84.cell? ⟨gb170, 3, none⟩ = some (.string t169) := (blk_cell BK170.out 3).trans rfl; have hcz85_4 : w84.cell? ⟨gb170, 4, none⟩ = some (.bool a3) := (blk_cell BK170.out 4).trans rfl; have hfz85_0 := blk_frozen BK170.out 0; have hfz85_1 := blk_frozen BK170.out 1; have hfz85_2 := blk_frozen BK170.out 2; have hfz85_3 := blk_frozen BK170.out 3; have hfz85_4 := blk_frozen BK170.out 4) | (go_at_call 15; (with_reducible refine (record_Size.calls kj23 (rd y171 a2) (rd y174 a2) t168 t169 a3 t186 _ A80.out).mono ?_); rintro e w86 ⟨rfl, hb⟩; have n0_ := Aside0.mk (Kd.R_below (by (with_reducible repeat (first | apply Kd.R_alloc | apply Kd.R_drewN | apply Kd.R_drew)); exact HO_12.out) hb); have n1_ := Aside0.mk (Kd.R_below (by (with_reducible repeat (first | apply Kd.R_alloc | apply Kd.R_drewN | apply Kd.R_drew)); exact HO_13.out) hb); have n2_ := Aside0.mk (blk_below (g := gb170) (o := .cells #[.int .i64 (rd y171 a2), .int .i64 (rd y174 a2), .string t168, .string t169, .bool a3] 25 (0, 0)) (by (with_reducible repeat (first | refine blk_drewN ?_ _ | refine blk_drew ?_ | refine blk_alloc ?_ _)); exact BK170.out) hb); have n3_ := Aside0.mk (below_step (by repeat (first | (with_reducible first | exact HB.out | apply below_alloc | apply pw_below_drewN | apply below_drew1 | refine below_set ?_ GE170.out) | exact HB.out)) hb); clear HO_12; clear HO_13; clear BK170; clear HB; have HO_12 := n0_; have HO_13 := n1_; have BK170 := n2_; have HB := n3_; clear n0_ n1_ n2_ n3_; (try clear hb); (try clear hb2); (try clear hk); (try clear hi)))
                                  go_ret
                                  exact ⟨by first | rfl | (simp [errW_none, errW_some] <;> rfl) | (simp [*, errW_none, errW_some] <;> rfl) | (simp [errW_none, errW_some]; generalize ByteArray.toList _ = l_; cases l_ <;> rfl), by repeat (first | (with_reducible first | exact HB.out | apply below_alloc | apply pw_below_drewN | apply below_drew1 | refine below_set ?_ GE170.out) | exact HB.out)⟩
                                · rw [if_neg c79] at H
                                  have c79b0 : (t185 == (a2 != 7)) = false := by simpa using c79
                                  (try (have c79b1 : decide (t185 = (a2 != 7)) = false := by simpa using c79))
                                  (try (have c79b2 : (t185 == (a2 != 7)) = false := by simpa using c79))
                                  (try (have c79b3 : ¬ (t185 = (a2 != 7)) := by simpa using c79))
                                  clear c79
                                  obtain rfl := Option.some.inj H
                                  obtain ⟨Ao87, co87, eo87⟩ := Kd.R_slice HO_12.out
                                  subst eo87
                                  have p177 : 0 ≤ (a2 : Int) := of_decide_eq_true (by first | (with_reducible assumption) | assumption)
                                  have q177 : a2 < (y171.length : Int) := of_decide_eq_true (by first | (with_reducible assumption) | assumption)
                                  obtain ⟨ad177, e177, hx177_0⟩ := Kd.at_int (Kd.R_reads' HO_12.out).2.2 a2 p177 q177
                                  cases e177
                                  replace p177 := eq_true p177
                                  replace q177 := eq_true q177
                                  have hcz88_0 : wc.cell? ⟨gb170, 0, none⟩ = some (.int .i64 0) := (blk_cell BK170.out 0).trans rfl
                                  have hcz88_1 : wc.cell? ⟨gb170, 1, none⟩ = some (.int .i64 0) := (blk_cell BK170.out 1).trans rfl
                                  have hcz88_2 : wc.cell? ⟨gb170, 2, none⟩ = some (.string t168) := (blk_cell BK170.out 2).trans rfl
                                  have hcz88_3 : wc.cell? ⟨gb170, 3, none⟩ = some (.string t169) := (blk_cell BK170.out 3).trans rfl
                                  have hcz88_4 : wc.cell? ⟨gb170, 4, none⟩ = some (.bool a3) := (blk_cell BK170.out 4).trans rfl
                                  have hfz88_0 := blk_frozen BK170.out 0
                                  have hfz88_1 := blk_frozen BK170.out 1
                                  have hfz88_2 := blk_frozen BK170.out 2
                                  have hfz88_3 := blk_frozen BK170.out 3
                                  have hfz88_4 := blk_frozen BK170.out 4
                                  obtain ⟨Ao89, co89, eo89⟩ := Kd.R_slice HO_13.out
                                  subst eo89
                                  have p178 : 0 ≤ (a2 : Int) := of_decide_eq_true (by first | (with_reducible assumption) | assumption)
                                  have q178 : a2 < (y174.length : Int) := of_decide_eq_true (by first | (with_reducible assumption) | assumption)
                                  obtain ⟨ad178, e178, hx178_0⟩ := Kd.at_int (Kd.R_reads' HO_13.out).2.2 a2 p178 q178
                                  cases e178
                                  have hn178_0 : ad178.block ≠ gb170 := Kd.own_blk (Kd.R_ne HO_13.out BK170.out (by decide))
                                  replace hx178_0 := (cell_far (p := ⟨gb170, 0, none⟩) (by first | (rw [add_block]; exact hn178_0) | (show (Addr.add _ _).block ≠ _; rw [add_block]; exact hn178_0) | exact hn178_0) (.int .i64 (rd y171 a2))).trans hx178_0
                                  clear hn178_0
                                  replace p178 := eq_true p178
                                  replace q178 := eq_true q178
                                  go_wp2_with (first | ((with_reducible refine gate_callee (f := 14) rfl ?_); refine goesL_ (some 96) rfl rfl Try.func14 (by kernel_rfl) rfl #[.agg #[.int .i64 (rd y171 a2), .int .i64 (rd y174 a2), .string t168, .string t169, .bool a3]] rfl (by (try simp only [List.map_toArray, List.map_cons, List.map_nil]); first | done | rfl | (simp only [List.length_drop, List.length_take]; rfl)) ?_; (with_reducible refine (record_Right.calls (rd y171 a2) (rd y174 a2) t168 t169 a3 t185 _ A78.out).mono ?_); rintro e w90 ⟨rfl, hb⟩; refine ⟨_, rfl, ?_⟩; have n0_ := Aside0.mk (Kd.R_below (by (with_reducible repeat (first | apply Kd.R_alloc | apply Kd.R_drewN | apply Kd.R_drew)); exact (Kd.R_mono (Kd.R_far (p := ⟨gb170, 1, none⟩) (Kd.R_far (p := ⟨gb170, 0, none⟩) (Kd.R_types HO_12.out BK170.out (by decide)) (fun _ hk => hk.2) (.int .i64 (rd y171 a2))) (fun _ hk => hk.2) (.int .i64 (rd y174 a2))) (fun _ h_ => h_.1))) hb); have n1_ := Aside0.mk (Kd.R_below (by (with_reducible repeat (first | apply Kd.R_alloc | apply Kd.R_drewN | apply Kd.R_drew)); exact (Kd.R_mono (Kd.R_far (p := ⟨gb170, 1, none⟩) (Kd.R_far (p := ⟨gb170, 0, none⟩) (Kd.R_types HO_13.out BK170.out (by decide)) (fun _ hk => hk.2) (.int .i64 (rd y171 a2))) (fun _ hk => hk.2) (.int .i64 (rd y174 a2))) (fun _ h_ => h_.1))) hb); have n2_ := Aside0.mk (blk_below (g := gb170) (o := .cells #[.int .i64 (rd y171 a2), .int .i64 (rd y174 a2), .string t168, .string t169, .bool a3] 25 (0, 0)) (by (with_reducible repeat (first | refine blk_drewN ?_ _ | refine blk_drew ?_ | refine blk_alloc ?_ _)); refine blk_put (cs := #[.int .i64 (rd y171 a2), .int .i64 0, .string t168, .string t169, .bool a3]) ?_ 1 _ rfl; (with_reducible repeat (first | refine blk_drewN ?_ _ | refine blk_drew ?_ | refine blk_alloc ?_ _)); refine blk_put (cs := #[.int .i64 0, .int .i64 0, .string t168, .string t169, .bool a3]) ?_ 0 _ rfl; (with_reducible repeat (first | refine blk_drewN ?_ _ | refine blk_drew ?_ | refine blk_alloc ?_ _)); exact BK170.out) hb); have n3_ := Aside0.mk (below_step (by repeat (first | (with_reducible first | exact HB.out | apply below_alloc | apply pw_below_drewN | apply below_drew1 | refine below_set ?_ GE170.out) | exact HB.out)) hb); clear HO_12; clear HO_13; clear BK170; clear HB; have HO_12 := n0_; have HO_13 := n1_; have BK170 := n2_; have HB := n3_; clear n0_ n1_ n2_ n3_; (try clear hb); (try clear hb2); (try clear hk); (try clear hi)))
                                  go_ret
                                  exact ⟨by first | rfl | (simp [errW_none, errW_some] <;> rfl) | (simp [*, errW_none, errW_some] <;> rfl) | (simp [errW_none, errW_some]; generalize ByteArray.toList _ = l_; cases l_ <;> rfl), by repeat (first | (with_reducible first | exact HB.out | apply below_alloc | apply pw_below_drewN | apply below_drew1 | refine below_set ?_ GE170.out) | exact HB.out)⟩
                        · replace c35 := Bool.eq_false_iff.mpr c35
                          subst c35
                          have H1 : ((record_Right.f (rd y171 a2) (rd y174 a2) t168 t169 a3).bind fun t187 => (if (t187 == false) = true then ((record_Size.f kj23 (rd y171 a2) (rd y174 a2) t168 t169 a3).bind fun t188 => (some ((decide (t188 > 0)) == false))) else (some false))) = some r := by rw [if_neg (show ¬ (false = true) by decide)] at H; exact H
                          clear H
                          have H := H1
                          clear H1
                          replace H := Option.bind_eq_some_iff.mp H
                          obtain ⟨t187, A910, H⟩ := H
                          replace H : (if (t187 == false) = true then ((record_Size.f kj23 (rd y171 a2) (rd y174 a2) t168 t169 a3).bind fun t188 => (some ((decide (t188 > 0)) == false))) else (some false)) = some r := H
                          have A91 := Aside0.mk A910
                          clear A910
                          by_cases c92 : (t187 == false) = true
                          · rw [if_pos c92] at H
                            have c92b0 : (t187 == false) = true := c92
                            (try (have c92b1 : decide (t187 = false) = true := by simpa using c92))
                            (try (have c92b2 : (t187 == false) = true := by simpa using c92))
                            clear c92
                            replace H := Option.bind_eq_some_iff.mp H
                            obtain ⟨t188, A930, H⟩ := H
                            replace H : (some ((decide (t188 > 0)) == false)) = some r := H
                            have A93 := Aside0.mk A930
                            clear A930
                            obtain rfl := Option.some.inj H
                            obtain ⟨Ao94, co94, eo94⟩ := Kd.R_slice HO_12.out
                            subst eo94
                            have p177 : 0 ≤ (a2 : Int) := of_decide_eq_true (by first | (with_reducible assumption) | assumption)
                            have q177 : a2 < (y171.length : Int) := of_decide_eq_true (by first | (with_reducible assumption) | assumption)
                            obtain ⟨ad177, e177, hx177_0⟩ := Kd.at_int (Kd.R_reads' HO_12.out).2.2 a2 p177 q177
                            cases e177
                            replace p177 := eq_true p177
                            replace q177 := eq_true q177
                            have hcz95_0 : wc.cell? ⟨gb170, 0, none⟩ = some (.int .i64 0) := (blk_cell BK170.out 0).trans rfl
                            have hcz95_1 : wc.cell? ⟨gb170, 1, none⟩ = some (.int .i64 0) := (blk_cell BK170.out 1).trans rfl
                            have hcz95_2 : wc.cell? ⟨gb170, 2, none⟩ = some (.string t168) := (blk_cell BK170.out 2).trans rfl
                            have hcz95_3 : wc.cell? ⟨gb170, 3, none⟩ = some (.string t169) := (blk_cell BK170.out 3).trans rfl
                            have hcz95_4 : wc.cell? ⟨gb170, 4, none⟩ = some (.bool a3) := (blk_cell BK170.out 4).trans rfl
                            have hfz95_0 := blk_frozen BK170.out 0
                            have hfz95_1 := blk_frozen BK170.out 1
                            have hfz95_2 := blk_frozen BK170.out 2
                            have hfz95_3 := blk_frozen BK170.out 3
                            have hfz95_4 := blk_frozen BK170.out 4
                            obtain ⟨Ao96, co96, eo96⟩ := Kd.R_slice HO_13.out
                            subst eo96
                            have p178 : 0 ≤ (a2 : Int) := of_decide_eq_true (by first | (with_reducible assumption) | assumption)
                            have q178 : a2 < (y174.length : Int) := of_decide_eq_true (by first | (with_reducible assumption) | assumption)
                            obtain ⟨ad178, e178, hx178_0⟩ := Kd.at_int (Kd.R_reads' HO_13.out).2.2 a2 p178 q178
                            cases e178
                            have hn178_0 : ad178.block ≠ gb170 := Kd.own_blk (Kd.R_ne HO_13.out BK170.out (by decide))
                            replace hx178_0 := (cell_far (p := ⟨gb170, 0, none⟩) (by first | (rw [add_block]; exact hn178_0) | (show (Addr.add _ _).block ≠ _; rw [add_block]; exact hn178_0) | exact hn178_0) (.int .i64 (rd y171 a2))).trans hx178_0
                            clear hn178_0
                            replace p178 := eq_true p178
                            replace q178 := eq_true q178
                            go_wp2_with (first | ((with_reducible refine gate_callee (f := 14) rfl ?_); refine goesL_ (some 96) rfl rfl Try.func14 (by kernel_rfl) rfl #[.agg #[.int .i64 (rd y171 a2), .int .i64 (rd y174 a2), .string t168, .string t169, .bool a3]] rfl (by (try simp only [List.map_toArray, List.map_cons, List.map_nil]); first | done | rfl | (simp only [List.length_drop, List.length_take]; rfl)) ?_; (with_reducible refine (record_Right.calls (rd y171 a2) (rd y174 a2) t168 t169 a3 t187 _ A91.out).mono ?_); rintro e w97 ⟨rfl, hb⟩; refine ⟨_, rfl, ?_⟩; have n0_ := Aside0.mk (Kd.R_below (by (with_reducible repeat (first | apply Kd.R_alloc | apply Kd.R_drewN | apply Kd.R_drew)); exact (Kd.R_mono (Kd.R_far (p := ⟨gb170, 1, none⟩) (Kd.R_far (p := ⟨gb170, 0, none⟩) (Kd.R_types HO_12.out BK170.out (by decide)) (fun _ hk => hk.2) (.int .i64 (rd y171 a2))) (fun _ hk => hk.2) (.int .i64 (rd y174 a2))) (fun _ h_ => h_.1))) hb); have n1_ := Aside0.mk (Kd.R_below (by (with_reducible repeat (first | apply Kd.R_alloc | apply Kd.R_drewN | apply Kd.R_drew)); exact (Kd.R_mono (Kd.R_far (p := ⟨gb170, 1, none⟩) (Kd.R_far (p := ⟨gb170, 0, none⟩) (Kd.R_types HO_13.out BK170.out (by decide)) (fun _ hk => hk.2) (.int .i64 (rd y171 a2))) (fun _ hk => hk.2) (.int .i64 (rd y174 a2))) (fun _ h_ => h_.1))) hb); have n2_ := Aside0.mk (blk_below (g := gb170) (o := .cells #[.int .i64 (rd y171 a2), .int .i64 (rd y174 a2), .string t168, .string t169, .bool a3] 25 (0, 0)) (by (with_reducible repeat (first | refine blk_drewN ?_ _ | refine blk_drew ?_ | refine blk_alloc ?_ _)); refine blk_put (cs := #[.int .i64 (rd y171 a2), .int .i64 0, .string t168, .string t169, .bool a3]) ?_ 1 _ rfl; (with_reducible repeat (first | refine blk_drewN ?_ _ | refine blk_drew ?_ | refine blk_alloc ?_ _)); refine blk_put (cs := #[.int .i64 0, .int .i64 0, .string t168, .string t169, .bool a3]) ?_ 0 _ rfl; (with_reducible repeat (first | refine blk_drewN ?_ _ | refine blk_drew ?_ | refine blk_alloc ?_ _)); exact BK170.out) hb); have n3_ := Aside0.mk (below_step (by repeat (first | (with_reducible first | exact HB.out | apply below_alloc | apply pw_below_drewN | apply below_drew1 | refine below_set ?_ GE170.out) | exact HB.out)) hb); clear HO_12; clear HO_13; clear BK170; clear HB; have HO_12 := n0_; have HO_13 := n1_; have BK170 := n2_; have HB := n3_; clear n0_ n1_ n2_ n3_; (try clear hb); (try clear hb2); (try clear hk); (try clear hi); have hcz98_0 : w97.cell? ⟨gb170, 0, none⟩ = some (.int .i64 (rd y171 a2)) := (blk_cell BK170.out 0).trans rfl; have hcz98_1 : w97.cell? ⟨gb170, 1, none⟩ = some (.int .i64 (rd y174 a2)) := (blk_cell BK170.out 1).trans rfl; have hcz98_2 : w97.cell? ⟨gb170, 2, none⟩ = some (.string t168) := (blk_cell BK170.out 2).trans rfl; have hcz98_3 : w97.cell? ⟨gb170, 3, none⟩ = some (.string t169) := (blk_cell BK170.out 3).trans rfl; have hcz98_4 : w97.cell? ⟨gb170, 4, none⟩ = some (.bool a3) := (blk_cell BK170.out 4).trans rfl; have hfz98_0 := blk_frozen BK170.out 0; have hfz98_1 := blk_frozen BK170.out 1; have hfz98_2 := blk_frozen BK170.out 2; have hfz98_3 := blk_frozen BK170.out 3; have hfz98_4 := blk_frozen BK170.out 4) | (go_at_call 15; (with_reducible refine (record_Size.calls kj23 (rd y171 a2) (rd y174 a2) t168 t169 a3 t188 _ A93.out).mono ?_); rintro e w99 ⟨rfl, hb⟩; have n0_ := Aside0.mk (Kd.R_below (by (with_reducible repeat (first | apply Kd.R_alloc | apply Kd.R_drewN | apply Kd.R_drew)); exact HO_12.out) hb); have n1_ := Aside0.mk (Kd.R_below (by (with_reducible repeat (first | apply Kd.R_alloc | apply Kd.R_drewN | apply Kd.R_drew)); exact HO_13.out) hb); have n2_ := Aside0.mk (blk_below (g := gb170) (o := .cells #[.int .i64 (rd y171 a2), .int .i64 (rd y174 a2), .string t168, .string t169, .bool a3] 25 (0, 0)) (by (with_reducible repeat (first | refine blk_drewN ?_ _ | refine blk_drew ?_ | refine blk_alloc ?_ _)); exact BK170.out) hb); have n3_ := Aside0.mk (below_step (by repeat (first | (with_reducible first | exact HB.out | apply below_alloc | apply pw_below_drewN | apply below_drew1 | refine below_set ?_ GE170.out) | exact HB.out)) hb); clear HO_12; clear HO_13; clear BK170; clear HB; have HO_12 := n0_; have HO_13 := n1_; have BK170 := n2_; have HB := n3_; clear n0_ n1_ n2_ n3_; (try clear hb); (try clear hb2); (try clear hk); (try clear hi)))
                            go_ret
                            exact ⟨by first | rfl | (simp [errW_none, errW_some] <;> rfl) | (simp [*, errW_none, errW_some] <;> rfl) | (simp [errW_none, errW_some]; generalize ByteArray.toList _ = l_; cases l_ <;> rfl), by repeat (first | (with_reducible first | exact HB.out | apply below_alloc | apply pw_below_drewN | apply below_drew1 | refine below_set ?_ GE170.out) | exact HB.out)⟩
                          · rw [if_neg c92] at H
                            have c92b0 : (t187 == false) = false := by simpa using c92
                            (try (have c92b1 : decide (t187 = false) = false := by simpa using c92))
                            (try (have c92b2 : (t187 == false) = false := by simpa using c92))
                            (try (have c92b3 : ¬ (t187 = false) := by simpa using c92))
                            clear c92
                            obtain rfl := Option.some.inj H
                            obtain ⟨Ao100, co100, eo100⟩ := Kd.R_slice HO_12.out
                            subst eo100
                            have p177 : 0 ≤ (a2 : Int) := of_decide_eq_true (by first | (with_reducible assumption) | assumption)
                            have q177 : a2 < (y171.length : Int) := of_decide_eq_true (by first | (with_reducible assumption) | assumption)
                            obtain ⟨ad177, e177, hx177_0⟩ := Kd.at_int (Kd.R_reads' HO_12.out).2.2 a2 p177 q177
                            cases e177
                            replace p177 := eq_true p177
                            replace q177 := eq_true q177
                            have hcz101_0 : wc.cell? ⟨gb170, 0, none⟩ = some (.int .i64 0) := (blk_cell BK170.out 0).trans rfl
                            have hcz101_1 : wc.cell? ⟨gb170, 1, none⟩ = some (.int .i64 0) := (blk_cell BK170.out 1).trans rfl
                            have hcz101_2 : wc.cell? ⟨gb170, 2, none⟩ = some (.string t168) := (blk_cell BK170.out 2).trans rfl
                            have hcz101_3 : wc.cell? ⟨gb170, 3, none⟩ = some (.string t169) := (blk_cell BK170.out 3).trans rfl
                            have hcz101_4 : wc.cell? ⟨gb170, 4, none⟩ = some (.bool a3) := (blk_cell BK170.out 4).trans rfl
                            have hfz101_0 := blk_frozen BK170.out 0
                            have hfz101_1 := blk_frozen BK170.out 1
                            have hfz101_2 := blk_frozen BK170.out 2
                            have hfz101_3 := blk_frozen BK170.out 3
                            have hfz101_4 := blk_frozen BK170.out 4
                            obtain ⟨Ao102, co102, eo102⟩ := Kd.R_slice HO_13.out
                            subst eo102
                            have p178 : 0 ≤ (a2 : Int) := of_decide_eq_true (by first | (with_reducible assumption) | assumption)
                            have q178 : a2 < (y174.length : Int) := of_decide_eq_true (by first | (with_reducible assumption) | assumption)
                            obtain ⟨ad178, e178, hx178_0⟩ := Kd.at_int (Kd.R_reads' HO_13.out).2.2 a2 p178 q178
                            cases e178
                            have hn178_0 : ad178.block ≠ gb170 := Kd.own_blk (Kd.R_ne HO_13.out BK170.out (by decide))
                            replace hx178_0 := (cell_far (p := ⟨gb170, 0, none⟩) (by first | (rw [add_block]; exact hn178_0) | (show (Addr.add _ _).block ≠ _; rw [add_block]; exact hn178_0) | exact hn178_0) (.int .i64 (rd y171 a2))).trans hx178_0
                            clear hn178_0
                            replace p178 := eq_true p178
                            replace q178 := eq_true q178
                            go_wp2_with (first | ((with_reducible refine gate_callee (f := 14) rfl ?_); refine goesL_ (some 96) rfl rfl Try.func14 (by kernel_rfl) rfl #[.agg #[.int .i64 (rd y171 a2), .int .i64 (rd y174 a2), .string t168, .string t169, .bool a3]] rfl (by (try simp only [List.map_toArray, List.map_cons, List.map_nil]); first | done | rfl | (simp only [List.length_drop, List.length_take]; rfl)) ?_; (with_reducible refine (record_Right.calls (rd y171 a2) (rd y174 a2) t168 t169 a3 t187 _ A91.out).mono ?_); rintro e w103 ⟨rfl, hb⟩; refine ⟨_, rfl, ?_⟩; have n0_ := Aside0.mk (Kd.R_below (by (with_reducible repeat (first | apply Kd.R_alloc | apply Kd.R_drewN | apply Kd.R_drew)); exact (Kd.R_mono (Kd.R_far (p := ⟨gb170, 1, none⟩) (Kd.R_far (p := ⟨gb170, 0, none⟩) (Kd.R_types HO_12.out BK170.out (by decide)) (fun _ hk => hk.2) (.int .i64 (rd y171 a2))) (fun _ hk => hk.2) (.int .i64 (rd y174 a2))) (fun _ h_ => h_.1))) hb); have n1_ := Aside0.mk (Kd.R_below (by (with_reducible repeat (first | apply Kd.R_alloc | apply Kd.R_drewN | apply Kd.R_drew)); exact (Kd.R_mono (Kd.R_far (p := ⟨gb170, 1, none⟩) (Kd.R_far (p := ⟨gb170, 0, none⟩) (Kd.R_types HO_13.out BK170.out (by decide)) (fun _ hk => hk.2) (.int .i64 (rd y171 a2))) (fun _ hk => hk.2) (.int .i64 (rd y174 a2))) (fun _ h_ => h_.1))) hb); have n2_ := Aside0.mk (blk_below (g := gb170) (o := .cells #[.int .i64 (rd y171 a2), .int .i64 (rd y174 a2), .string t168, .string t169, .bool a3] 25 (0, 0)) (by (with_reducible repeat (first | refine blk_drewN ?_ _ | refine blk_drew ?_ | refine blk_alloc ?_ _)); refine blk_put (cs := #[.int .i64 (rd y171 a2), .int .i64 0, .string t168, .string t169, .bool a3]) ?_ 1 _ rfl; (with_reducible repeat (first | refine blk_drewN ?_ _ | refine blk_drew ?_ | refine blk_alloc ?_ _)); refine blk_put (cs := #[.int .i64 0, .int .i64 0, .string t168, .string t169, .bool a3]) ?_ 0 _ rfl; (with_reducible repeat (first | refine blk_drewN ?_ _ | refine blk_drew ?_ | refine blk_alloc ?_ _)); exact BK170.out) hb); have n3_ := Aside0.mk (below_step (by repeat (first | (with_reducible first | exact HB.out | apply below_alloc | apply pw_below_drewN | apply below_drew1 | refine below_set ?_ GE170.out) | exact HB.out)) hb); clear HO_12; clear HO_13; clear BK170; clear HB; have HO_12 := n0_; have HO_13 := n1_; have BK170 := n2_; have HB := n3_; clear n0_ n1_ n2_ n3_; (try clear hb); (try clear hb2); (try clear hk); (try clear hi)))
                            go_ret
                            exact ⟨by first | rfl | (simp [errW_none, errW_some] <;> rfl) | (simp [*, errW_none, errW_some] <;> rfl) | (simp [errW_none, errW_some]; generalize ByteArray.toList _ = l_; cases l_ <;> rfl), by repeat (first | (with_reducible first | exact HB.out | apply below_alloc | apply pw_below_drewN | apply below_drew1 | refine below_set ?_ GE170.out) | exact HB.out)⟩
                      · rw [if_neg c34] at H
                        exact absurd H (by simp)
                    · rw [if_neg c33] at H
                      exact absurd H (by simp)
                  · rw [if_neg c32] at H
                    exact absurd H (by simp)

/-- THE ONE PURE STATEMENT of cooperagelaw4_RecordBounds: yours. -/
def cooperagelaw4_RecordBounds.Pure : Prop := ∀ (a0 : Int) (a1 : Int) (a2 : Int) (a3 : Bool), (Lit.int .i64 a0).wf = true → (Lit.int .i64 a1).wf = true → (Lit.int .i64 a2).wf = true → ∃ k, cooperagelaw4_RecordBounds.f k a0 a1 a2 a3 = some true
theorem cooperagelaw4_RecordBounds.walk (P : cooperagelaw4_RecordBounds.Pure) (a0 : Int) (a1 : Int) (a2 : Int) (a3 : Bool) (w : World) (w0 : (Lit.int .i64 a0).wf = true) (w1 : (Lit.int .i64 a1).wf = true) (w2 : (Lit.int .i64 a2).wf = true) :
    Calls Try.prog 3 #[.int .i64 a0, .int .i64 a1, .int .i64 a2, .bool a3] w fun e w' => e = .returned (.bool true) ∧ Below w.heap.size w w' := by
  obtain ⟨k, h⟩ := P a0 a1 a2 a3 w0 w1 w2
  refine (cooperagelaw4_RecordBounds.calls k a0 a1 a2 a3 true w h).mono ?_
  rintro e w' ⟨rfl, hd⟩
  exact ⟨rfl, hd⟩

end Go.Proofs.Ytpafbpfcoacidaa.R

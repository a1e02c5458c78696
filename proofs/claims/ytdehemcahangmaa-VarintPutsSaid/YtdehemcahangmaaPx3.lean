-- printed by a program of this session (a changed copy of the kit's printer)
import Derived.Test.YtdehemcahangmaaPx0
import Derived.Test.YtdehemcahangmaaPx2
namespace Go.Proofs.Ytdehemcahangmaa.P
open Go.RowKit Go.Proofs.YtdehemcahangmaaW.PrintWords Go.Proofs.YtdehemcahangmaaW.PrintLast Go.Proofs.YtdehemcahangmaaW.PrintMore
attribute [local go_sem] max2_int min2_int max_two min_two max_three min_three max_four min_four   -- for this text's walks alone
set_option linter.unusedVariables false
set_option linter.unusedSimpArgs false

/-! ### varint_Unfold: function 20 -/
def varint_Unfold.f (a0 : Int) : Option (Int) := if (Go.bits .and .u64 a0 1) = 1 then (some (Go.bits .xor .i64 (-1) (wrap64 (a0 / 2)))) else (some (wrap64 (a0 / 2)))
set_option maxHeartbeats 8000000 in
set_option maxRecDepth 100000 in
theorem varint_Unfold.calls (a0 : Int) (r : Int) (w : World) (h : varint_Unfold.f a0 = some r) :
    Calls Try.prog 20 #[.int .u64 a0] w fun e w' => e = .returned (.int .i64 r) ∧ Drawn0 w w' := by
  have H : (if (Go.bits .and .u64 a0 1) = 1 then (some (Go.bits .xor .i64 (-1) (wrap64 (a0 / 2)))) else (some (wrap64 (a0 / 2)))) = some r := h
  clear h
  by_cases c2 : (Go.bits .and .u64 a0 1) = 1
  · rw [if_pos c2] at H
    have c2b0 : ((Go.bits .and .u64 a0 1) == 1) = true := beq_iff_eq.mpr c2
    have c2b1 : ((Go.bits .and .u64 a0 1) != 1) = false := bne_eq_false_iff_eq.mpr c2
    clear c2
    obtain rfl := Option.some.inj H
    go_enter Try.func20, Try.ntmps20
    go_wp2
    go_ret
    exact ⟨by first | rfl | (simp; done) | (simp [*]; done), by repeat (first | exact Drawn0.refl _ | apply Drawn0.step)⟩
  · rw [if_neg c2] at H
    have c2b0 : ((Go.bits .and .u64 a0 1) == 1) = false := beq_eq_false_iff_ne.mpr c2
    have c2b1 : ((Go.bits .and .u64 a0 1) != 1) = true := bne_iff_ne.mpr c2
    obtain rfl := Option.some.inj H
    go_enter Try.func20, Try.ntmps20
    go_wp2
    go_ret
    exact ⟨by first | rfl | (simp; done) | (simp [*]; done), by repeat (first | exact Drawn0.refl _ | apply Drawn0.step)⟩

/-! ### cooperageref1_Unfold: function 21 -/
def cooperageref1_Unfold.f (a0 : Int) : Option (Int) := if (Go.bits .and .u64 a0 1) = 1 then (some (wrap64 ((wrap64 (-(wrap64 (a0 / 2)))) - 1))) else (some (wrap64 (a0 / 2)))
set_option maxHeartbeats 8000000 in
set_option maxRecDepth 100000 in
theorem cooperageref1_Unfold.calls (a0 : Int) (r : Int) (w : World) (h : cooperageref1_Unfold.f a0 = some r) :
    Calls Try.prog 21 #[.int .u64 a0] w fun e w' => e = .returned (.int .i64 r) ∧ Drawn0 w w' := by
  have H : (if (Go.bits .and .u64 a0 1) = 1 then (some (wrap64 ((wrap64 (-(wrap64 (a0 / 2)))) - 1))) else (some (wrap64 (a0 / 2)))) = some r := h
  clear h
  by_cases c2 : (Go.bits .and .u64 a0 1) = 1
  · rw [if_pos c2] at H
    have c2b0 : ((Go.bits .and .u64 a0 1) == 1) = true := beq_iff_eq.mpr c2
    have c2b1 : ((Go.bits .and .u64 a0 1) != 1) = false := bne_eq_false_iff_eq.mpr c2
    clear c2
    obtain rfl := Option.some.inj H
    go_enter Try.func21, Try.ntmps21
    go_wp2
    go_ret
    exact ⟨by first | rfl | (simp; done) | (simp [*]; done), by repeat (first | exact Drawn0.refl _ | apply Drawn0.step)⟩
  · rw [if_neg c2] at H
    have c2b0 : ((Go.bits .and .u64 a0 1) == 1) = false := beq_eq_false_iff_ne.mpr c2
    have c2b1 : ((Go.bits .and .u64 a0 1) != 1) = true := bne_iff_ne.mpr c2
    obtain rfl := Option.some.inj H
    go_enter Try.func21, Try.ntmps21
    go_wp2
    go_ret
    exact ⟨by first | rfl | (simp; done) | (simp [*]; done), by repeat (first | exact Drawn0.refl _ | apply Drawn0.step)⟩

/-! ### cooperagelaw1_VarintFolds: function 7 -/
def cooperagelaw1_VarintFolds.j0 : Nat → Int → Int → Bool → Int → Bool → Option (Bool)
  | 0, _, _, _, _, _ => none
  | k + 1, x0, x1, x5, x6, x7 => if x5 = true then ((cooperageref1_Fold.f x0).bind fun t161 => (if x6 = t161 then ((varint_Unfold.f x6).bind fun t162 => (if t162 = x0 then ((varint_Unfold.f x1).bind fun t163 => ((cooperageref1_Unfold.f x1).bind fun t164 => (if t163 = t164 then ((varint_Unfold.f x1).bind fun t165 => ((varint_Fold.f t165).bind fun t166 => (if t166 = x1 then (some x7) else (some false)))) else (some false)))) else (some false))) else (some false))) else (some false)
def cooperagelaw1_VarintFolds.f (k : Nat) (a0 : Int) (a1 : Int) : Option (Bool) := (cooperagelaw1_alive.f k).bind fun t159 => ((varint_Fold.f a0).bind fun t160 => (if a0 < (-1000) then (cooperagelaw1_VarintFolds.j0 k a0 a1 t159 t160 true) else (if a0 > 1000 then (cooperagelaw1_VarintFolds.j0 k a0 a1 t159 t160 true) else (cooperagelaw1_VarintFolds.j0 k a0 a1 t159 t160 (decide (t160 ≤ 2000))))))
theorem cooperagelaw1_VarintFolds.mono_l : ∀ k, (∀ y0 y1 y2 y3 y4, LeO (cooperagelaw1_VarintFolds.j0 k y0 y1 y2 y3 y4) (cooperagelaw1_VarintFolds.j0 (k + 1) y0 y1 y2 y3 y4))
  | 0 => fun _ _ _ _ _ r h => by simp [cooperagelaw1_VarintFolds.j0] at h
  | k + 1 => by
    have ih0 := cooperagelaw1_VarintFolds.mono_l k
    · intro y0 y1 y2 y3 y4
      unfold cooperagelaw1_VarintFolds.j0
      repeat' first
      | (with_reducible exact ih0 _ _ _ _ _)
      | (with_reducible exact cooperagelaw1_alive.mono _)
      | (with_reducible exact LeO.refl _)
      | (with_reducible exact LeO.none _)
      | (with_reducible refine LeO.ite ?_ ?_)
      | (with_reducible refine LeO.bind ?_ (fun _ => ?_))
      | exact ih0 _ _ _ _ _
      | exact cooperagelaw1_alive.mono _
      | exact LeO.none _
      | refine LeO.ite ?_ ?_
      | refine LeO.bind ?_ (fun _ => ?_)
theorem cooperagelaw1_VarintFolds.mono : ∀ a0 a1 k, LeO (cooperagelaw1_VarintFolds.f k a0 a1) (cooperagelaw1_VarintFolds.f (k + 1) a0 a1) := by
  intro a0 a1 k
  have ih0 := cooperagelaw1_VarintFolds.mono_l k
  unfold cooperagelaw1_VarintFolds.f
  repeat' first
      | (with_reducible exact ih0 _ _ _ _ _)
      | (with_reducible exact cooperagelaw1_alive.mono _)
      | (with_reducible exact LeO.refl _)
      | (with_reducible exact LeO.none _)
      | (with_reducible refine LeO.ite ?_ ?_)
      | (with_reducible refine LeO.bind ?_ (fun _ => ?_))
      | exact ih0 _ _ _ _ _
      | exact cooperagelaw1_alive.mono _
      | exact LeO.none _
      | refine LeO.ite ?_ ?_
      | refine LeO.bind ?_ (fun _ => ?_)
set_option maxHeartbeats 8000000 in
set_option maxRecDepth 100000 in
theorem cooperagelaw1_VarintFolds.calls (k : Nat) (a0 : Int) (a1 : Int) (r : Bool) (w : World) (h : cooperagelaw1_VarintFolds.f k a0 a1 = some r) :
    Calls Try.prog 7 #[.int .i64 a0, .int .u64 a1] w fun e w' => e = .returned (.bool r) ∧ Below w.heap.size w w' := by
  have HB := Aside0.mk (Below.refl w.heap.size w)
  have H : ((cooperagelaw1_alive.f k).bind fun t159 => ((varint_Fold.f a0).bind fun t160 => (if a0 < (-1000) then (cooperagelaw1_VarintFolds.j0 k a0 a1 t159 t160 true) else (if a0 > 1000 then (cooperagelaw1_VarintFolds.j0 k a0 a1 t159 t160 true) else (cooperagelaw1_VarintFolds.j0 k a0 a1 t159 t160 (decide (t160 ≤ 2000))))))) = some r := h
  clear h
  replace H := Option.bind_eq_some_iff.mp H
  obtain ⟨t159, A30, H⟩ := H
  replace H : ((varint_Fold.f a0).bind fun t160 => (if a0 < (-1000) then (cooperagelaw1_VarintFolds.j0 k a0 a1 t159 t160 true) else (if a0 > 1000 then (cooperagelaw1_VarintFolds.j0 k a0 a1 t159 t160 true) else (cooperagelaw1_VarintFolds.j0 k a0 a1 t159 t160 (decide (t160 ≤ 2000)))))) = some r := H
  have A3 := Aside0.mk A30
  clear A30
  replace H := Option.bind_eq_some_iff.mp H
  obtain ⟨t160, A40, H⟩ := H
  replace H : (if a0 < (-1000) then (cooperagelaw1_VarintFolds.j0 k a0 a1 t159 t160 true) else (if a0 > 1000 then (cooperagelaw1_VarintFolds.j0 k a0 a1 t159 t160 true) else (cooperagelaw1_VarintFolds.j0 k a0 a1 t159 t160 (decide (t160 ≤ 2000))))) = some r := H
  have A4 := Aside0.mk A40
  clear A40
  have HC5 := Aside0.mk H
  clear H
  go_enter Try.func7, Try.ntmps7
  go_upto_region 3 with (first | ((with_reducible refine gate_callee (f := 17) rfl ?_); refine goesL_ (some 8) rfl rfl Try.func17 (by kernel_rfl) rfl #[] rfl (by (try simp only [List.map_toArray, List.map_cons, List.map_nil]); first | done | rfl | (simp only [List.length_drop, List.length_take]; rfl)) ?_; (with_reducible refine (cooperagelaw1_alive.calls k  t159 _ A3.out).mono ?_); rintro e w6 ⟨rfl, hb⟩; refine ⟨_, rfl, ?_⟩; have n0_ := Aside0.mk (below_step (by repeat (first | (with_reducible first | exact HB.out | apply below_alloc | apply pw_below_drewN | apply below_drew1) | exact HB.out)) hb); clear HB; have HB := n0_; clear n0_; (try clear hb); (try clear hb2); (try clear hk); (try clear hi)) | ((with_reducible refine gate_callee (f := 18) rfl ?_); refine goesL_ (some 10) rfl rfl Try.func18 (by kernel_rfl) rfl #[.int .i64 a0] rfl (by (try simp only [List.map_toArray, List.map_cons, List.map_nil]); first | done | rfl | (simp only [List.length_drop, List.length_take]; rfl)) ?_; (with_reducible refine (varint_Fold.calls a0 t160 _ A4.out).mono ?_); rintro e w' ⟨rfl, ⟨nd, rfl⟩⟩; refine ⟨_, rfl, ?_⟩))
  (try simp only [Act.put, List.setIfInBounds_toArray, List.set_cons_zero, List.set_cons_succ])
  go_cut [7] (fun v7 wc => ∃ (kq : Nat) (x7_4 : Bool), v7 = .bool x7_4 ∧ Aside0 (cooperagelaw1_VarintFolds.j0 kq a0 a1 t159 t160 x7_4 = some r) ∧ Aside0 (kq ≤ k) ∧ Aside0 (Below w.heap.size w wc))
  case first =>
    have H := HC5.out
    clear HC5
    by_cases c7 : a0 < (-1000)
    · rw [if_pos c7] at H
      have c7b0 : decide (a0 < (-1000)) = true := decide_eq_true c7
      clear c7
      (first | rw [c7b0] | (simp only [i64_w, i32_w]; rw [c7b0]) | skip)
      have H' := Aside0.mk H
      clear H
      go_wp2
      go_meet
      case rel => exact ⟨_, (true), (by first | rfl | (simp; done) | (simp [*]; done)), H', ⟨by first | omega | exact Nat.le_refl _⟩, ⟨by repeat (first | (with_reducible first | exact HB.out | apply below_alloc | apply pw_below_drewN | apply below_drew1) | exact HB.out)⟩⟩
    · rw [if_neg c7] at H
      have c7b0 : decide (a0 < (-1000)) = false := decide_eq_false c7
      clear c7
      (first | rw [c7b0] | (simp only [i64_w, i32_w]; rw [c7b0]) | skip)
      by_cases c8 : a0 > 1000
      · rw [if_pos c8] at H
        have c8b0 : decide (1000 < a0) = true := decide_eq_true c8
        clear c8
        have H' := Aside0.mk H
        clear H
        go_wp2
        go_meet
        case rel => exact ⟨_, (true), (by first | rfl | (simp; done) | (simp [*]; done)), H', ⟨by first | omega | exact Nat.le_refl _⟩, ⟨by repeat (first | (with_reducible first | exact HB.out | apply below_alloc | apply pw_below_drewN | apply below_drew1) | exact HB.out)⟩⟩
      · rw [if_neg c8] at H
        have c8b0 : decide (1000 < a0) = false := decide_eq_false c8
        clear c8
        have H' := Aside0.mk H
        clear H
        go_wp2
        go_meet
        case rel => exact ⟨_, (decide (t160 ≤ 2000)), (by first | rfl | (simp; done) | (simp [*]; done)), H', ⟨by first | omega | exact Nat.le_refl _⟩, ⟨by repeat (first | (with_reducible first | exact HB.out | apply below_alloc | apply pw_below_drewN | apply below_drew1) | exact HB.out)⟩⟩
  case rest =>
    clear HC5
    try clear c1
    try clear p2
    try clear c7
    try clear c7b0
    try clear c8
    try clear c8b0
    obtain ⟨kq, x7_4, rfl, HA, HJ4, HB⟩ := hcut
    cases kq with
    | zero => exact absurd HA.out (by simp [cooperagelaw1_VarintFolds.j0])
    | succ kj4 =>
      have H := HA.out
      clear HA
      simp only [cooperagelaw1_VarintFolds.j0] at H
      by_cases c9 : t159 = true
      · subst c9
        have H1 : ((cooperageref1_Fold.f a0).bind fun t161 => (if t160 = t161 then ((varint_Unfold.f t160).bind fun t162 => (if t162 = a0 then ((varint_Unfold.f a1).bind fun t163 => ((cooperageref1_Unfold.f a1).bind fun t164 => (if t163 = t164 then ((varint_Unfold.f a1).bind fun t165 => ((varint_Fold.f t165).bind fun t166 => (if t166 = a1 then (some x7_4) else (some false)))) else (some false)))) else (some false))) else (some false))) = some r := by rw [if_pos rfl] at H; exact H
        clear H
        have H := H1
        clear H1
        replace H := Option.bind_eq_some_iff.mp H
        obtain ⟨t161, A100, H⟩ := H
        replace H : (if t160 = t161 then ((varint_Unfold.f t160).bind fun t162 => (if t162 = a0 then ((varint_Unfold.f a1).bind fun t163 => ((cooperageref1_Unfold.f a1).bind fun t164 => (if t163 = t164 then ((varint_Unfold.f a1).bind fun t165 => ((varint_Fold.f t165).bind fun t166 => (if t166 = a1 then (some x7_4) else (some false)))) else (some false)))) else (some false))) else (some false)) = some r := H
        have A10 := Aside0.mk A100
        clear A100
        by_cases c11 : t160 = t161
        · rw [if_pos c11] at H
          have c11b0 : (t160 == t161) = true := beq_iff_eq.mpr c11
          have c11b1 : (t160 != t161) = false := bne_eq_false_iff_eq.mpr c11
          clear c11
          replace H := Option.bind_eq_some_iff.mp H
          obtain ⟨t162, A120, H⟩ := H
          replace H : (if t162 = a0 then ((varint_Unfold.f a1).bind fun t163 => ((cooperageref1_Unfold.f a1).bind fun t164 => (if t163 = t164 then ((varint_Unfold.f a1).bind fun t165 => ((varint_Fold.f t165).bind fun t166 => (if t166 = a1 then (some x7_4) else (some false)))) else (some false)))) else (some false)) = some r := H
          have A12 := Aside0.mk A120
          clear A120
          by_cases c13 : t162 = a0
          · rw [if_pos c13] at H
            have c13b0 : (t162 == a0) = true := beq_iff_eq.mpr c13
            have c13b1 : (t162 != a0) = false := bne_eq_false_iff_eq.mpr c13
            clear c13
            replace H := Option.bind_eq_some_iff.mp H
            obtain ⟨t163, A140, H⟩ := H
            replace H : ((cooperageref1_Unfold.f a1).bind fun t164 => (if t163 = t164 then ((varint_Unfold.f a1).bind fun t165 => ((varint_Fold.f t165).bind fun t166 => (if t166 = a1 then (some x7_4) else (some false)))) else (some false))) = some r := H
            have A14 := Aside0.mk A140
            clear A140
            replace H := Option.bind_eq_some_iff.mp H
            obtain ⟨t164, A150, H⟩ := H
            replace H : (if t163 = t164 then ((varint_Unfold.f a1).bind fun t165 => ((varint_Fold.f t165).bind fun t166 => (if t166 = a1 then (some x7_4) else (some false)))) else (some false)) = some r := H
            have A15 := Aside0.mk A150
            clear A150
            by_cases c16 : t163 = t164
            · rw [if_pos c16] at H
              have c16b0 : (t163 == t164) = true := beq_iff_eq.mpr c16
              have c16b1 : (t163 != t164) = false := bne_eq_false_iff_eq.mpr c16
              clear c16
              replace H := Option.bind_eq_some_iff.mp H
              obtain ⟨t165, A170, H⟩ := H
              replace H : ((varint_Fold.f t165).bind fun t166 => (if t166 = a1 then (some x7_4) else (some false))) = some r := H
              have A17 := Aside0.mk A170
              clear A170
              have e_ := Option.some.inj (A17.out.symm.trans A14.out)
              subst e_
              replace H := Option.bind_eq_some_iff.mp H
              obtain ⟨t166, A180, H⟩ := H
              replace H : (if t166 = a1 then (some x7_4) else (some false)) = some r := H
              have A18 := Aside0.mk A180
              clear A180
              by_cases c19 : t166 = a1
              · rw [if_pos c19] at H
                have c19b0 : (t166 == a1) = true := beq_iff_eq.mpr c19
                have c19b1 : (t166 != a1) = false := bne_eq_false_iff_eq.mpr c19
                clear c19
                obtain rfl := Option.some.inj H
                go_wp2_with (first | (go_at_call 19; (with_reducible refine (cooperageref1_Fold.calls a0 t161 _ A10.out).mono ?_); rintro e w' ⟨rfl, ⟨nd, rfl⟩⟩) | (go_at_call 20; (with_reducible refine (varint_Unfold.calls t160 t162 _ A12.out).mono ?_); rintro e w' ⟨rfl, ⟨nd, rfl⟩⟩) | (go_at_call 20; (with_reducible refine (varint_Unfold.calls a1 t163 _ A14.out).mono ?_); rintro e w' ⟨rfl, ⟨nd, rfl⟩⟩) | (go_at_call 21; (with_reducible refine (cooperageref1_Unfold.calls a1 t164 _ A15.out).mono ?_); rintro e w' ⟨rfl, ⟨nd, rfl⟩⟩) | (go_at_call 20; (with_reducible refine (varint_Unfold.calls a1 t165 _ A17.out).mono ?_); rintro e w' ⟨rfl, ⟨nd, rfl⟩⟩) | (go_at_call 18; (with_reducible refine (varint_Fold.calls t165 t166 _ A18.out).mono ?_); rintro e w' ⟨rfl, ⟨nd, rfl⟩⟩))
                go_ret
                exact ⟨by first | rfl | (simp [errW_none, errW_some] <;> rfl) | (simp [*, errW_none, errW_some] <;> rfl) | (simp [errW_none, errW_some]; generalize ByteArray.toList _ = l_; cases l_ <;> rfl), by repeat (first | (with_reducible first | exact HB.out | apply below_alloc | apply pw_below_drewN | apply below_drew1) | exact HB.out)⟩
              · rw [if_neg c19] at H
                have c19b0 : (t166 == a1) = false := beq_eq_false_iff_ne.mpr c19
                have c19b1 : (t166 != a1) = true := bne_iff_ne.mpr c19
                obtain rfl := Option.some.inj H
                go_wp2_with (first | (go_at_call 19; (with_reducible refine (cooperageref1_Fold.calls a0 t161 _ A10.out).mono ?_); rintro e w' ⟨rfl, ⟨nd, rfl⟩⟩) | (go_at_call 20; (with_reducible refine (varint_Unfold.calls t160 t162 _ A12.out).mono ?_); rintro e w' ⟨rfl, ⟨nd, rfl⟩⟩) | (go_at_call 20; (with_reducible refine (varint_Unfold.calls a1 t163 _ A14.out).mono ?_); rintro e w' ⟨rfl, ⟨nd, rfl⟩⟩) | (go_at_call 21; (with_reducible refine (cooperageref1_Unfold.calls a1 t164 _ A15.out).mono ?_); rintro e w' ⟨rfl, ⟨nd, rfl⟩⟩) | (go_at_call 20; (with_reducible refine (varint_Unfold.calls a1 t165 _ A17.out).mono ?_); rintro e w' ⟨rfl, ⟨nd, rfl⟩⟩) | (go_at_call 18; (with_reducible refine (varint_Fold.calls t165 t166 _ A18.out).mono ?_); rintro e w' ⟨rfl, ⟨nd, rfl⟩⟩))
                go_ret
                exact ⟨by first | rfl | (simp [errW_none, errW_some] <;> rfl) | (simp [*, errW_none, errW_some] <;> rfl) | (simp [errW_none, errW_some]; generalize ByteArray.toList _ = l_; cases l_ <;> rfl), by repeat (first | (with_reducible first | exact HB.out | apply below_alloc | apply pw_below_drewN | apply below_drew1) | exact HB.out)⟩
            · rw [if_neg c16] at H
              have c16b0 : (t163 == t164) = false := beq_eq_false_iff_ne.mpr c16
              have c16b1 : (t163 != t164) = true := bne_iff_ne.mpr c16
              obtain rfl := Option.some.inj H
              go_wp2_with (first | (go_at_call 19; (with_reducible refine (cooperageref1_Fold.calls a0 t161 _ A10.out).mono ?_); rintro e w' ⟨rfl, ⟨nd, rfl⟩⟩) | (go_at_call 20; (with_reducible refine (varint_Unfold.calls t160 t162 _ A12.out).mono ?_); rintro e w' ⟨rfl, ⟨nd, rfl⟩⟩) | (go_at_call 20; (with_reducible refine (varint_Unfold.calls a1 t163 _ A14.out).mono ?_); rintro e w' ⟨rfl, ⟨nd, rfl⟩⟩) | (go_at_call 21; (with_reducible refine (cooperageref1_Unfold.calls a1 t164 _ A15.out).mono ?_); rintro e w' ⟨rfl, ⟨nd, rfl⟩⟩))
              go_ret
              exact ⟨by first | rfl | (simp [errW_none, errW_some] <;> rfl) | (simp [*, errW_none, errW_some] <;> rfl) | (simp [errW_none, errW_some]; generalize ByteArray.toList _ = l_; cases l_ <;> rfl), by repeat (first | (with_reducible first | exact HB.out | apply below_alloc | apply pw_below_drewN | apply below_drew1) | exact HB.out)⟩
          · rw [if_neg c13] at H
            have c13b0 : (t162 == a0) = false := beq_eq_false_iff_ne.mpr c13
            have c13b1 : (t162 != a0) = true := bne_iff_ne.mpr c13
            obtain rfl := Option.some.inj H
            go_wp2_with (first | (go_at_call 19; (with_reducible refine (cooperageref1_Fold.calls a0 t161 _ A10.out).mono ?_); rintro e w' ⟨rfl, ⟨nd, rfl⟩⟩) | (go_at_call 20; (with_reducible refine (varint_Unfold.calls t160 t162 _ A12.out).mono ?_); rintro e w' ⟨rfl, ⟨nd, rfl⟩⟩))
            go_ret
            exact ⟨by first | rfl | (simp [errW_none, errW_some] <;> rfl) | (simp [*, errW_none, errW_some] <;> rfl) | (simp [errW_none, errW_some]; generalize ByteArray.toList _ = l_; cases l_ <;> rfl), by repeat (first | (with_reducible first | exact HB.out | apply below_alloc | apply pw_below_drewN | apply below_drew1) | exact HB.out)⟩
        · rw [if_neg c11] at H
          have c11b0 : (t160 == t161) = false := beq_eq_false_iff_ne.mpr c11
          have c11b1 : (t160 != t161) = true := bne_iff_ne.mpr c11
          obtain rfl := Option.some.inj H
          go_wp2_with (first | (go_at_call 19; (with_reducible refine (cooperageref1_Fold.calls a0 t161 _ A10.out).mono ?_); rintro e w' ⟨rfl, ⟨nd, rfl⟩⟩))
          go_ret
          exact ⟨by first | rfl | (simp [errW_none, errW_some] <;> rfl) | (simp [*, errW_none, errW_some] <;> rfl) | (simp [errW_none, errW_some]; generalize ByteArray.toList _ = l_; cases l_ <;> rfl), by repeat (first | (with_reducible first | exact HB.out | apply below_alloc | apply pw_below_drewN | apply below_drew1) | exact HB.out)⟩
      · replace c9 := Bool.eq_false_iff.mpr c9
        subst c9
        have H1 : (some false) = some r := by rw [if_neg (show ¬ (false = true) by decide)] at H; exact H
        clear H
        have H := H1
        clear H1
        obtain rfl := Option.some.inj H
        go_wp2
        go_ret
        exact ⟨by first | rfl | (simp [errW_none, errW_some] <;> rfl) | (simp [*, errW_none, errW_some] <;> rfl) | (simp [errW_none, errW_some]; generalize ByteArray.toList _ = l_; cases l_ <;> rfl), by repeat (first | (with_reducible first | exact HB.out | apply below_alloc | apply pw_below_drewN | apply below_drew1) | exact HB.out)⟩

/-- THE ONE PURE STATEMENT of cooperagelaw1_VarintFolds: yours. -/
def cooperagelaw1_VarintFolds.Pure : Prop := ∀ (a0 : Int) (a1 : Int), (Lit.int .i64 a0).wf = true → (Lit.int .u64 a1).wf = true → ∃ k, cooperagelaw1_VarintFolds.f k a0 a1 = some true
theorem cooperagelaw1_VarintFolds.walk (P : cooperagelaw1_VarintFolds.Pure) (a0 : Int) (a1 : Int) (w : World) (w0 : (Lit.int .i64 a0).wf = true) (w1 : (Lit.int .u64 a1).wf = true) :
    Calls Try.prog 7 #[.int .i64 a0, .int .u64 a1] w fun e w' => e = .returned (.bool true) ∧ Below w.heap.size w w' := by
  obtain ⟨k, h⟩ := P a0 a1 w0 w1
  refine (cooperagelaw1_VarintFolds.calls k a0 a1 true w h).mono ?_
  rintro e w' ⟨rfl, hd⟩
  exact ⟨rfl, hd⟩

/-! ### cooperageref1_Put: function 23 -/
def cooperageref1_Put.l0 : Nat → List Int → Int → Option (List Int)
  | 0, _, _ => none
  | k + 1, x0, x1 => if x1 > 127 then (if x0.length < 140737488355328 then (cooperageref1_Put.l0 k (x0 ++ [Go.bits .or .u8 ((Go.bits .and .u64 x1 127) % 256) 128]) (x1 / 128)) else (none)) else (if x0.length < 140737488355328 then (some (x0 ++ [(x1) % 256])) else (none))
def cooperageref1_Put.f (k : Nat) (l0 : List Int) (a1 : Int) : Option (List Int) := if ([] : List Int).length + l0.length < 140737488355328 then (cooperageref1_Put.l0 k (([] : List Int) ++ l0) a1) else (none)
theorem cooperageref1_Put.mono_l : ∀ k, (∀ y0 y1, LeO (cooperageref1_Put.l0 k y0 y1) (cooperageref1_Put.l0 (k + 1) y0 y1))
  | 0 => fun _ _ r h => by simp [cooperageref1_Put.l0] at h
  | k + 1 => by
    have ih0 := cooperageref1_Put.mono_l k
    · intro y0 y1
      unfold cooperageref1_Put.l0
      repeat' first
      | (with_reducible exact ih0 _ _)
      | (with_reducible exact LeO.refl _)
      | (with_reducible exact LeO.none _)
      | (with_reducible refine LeO.ite ?_ ?_)
      | (with_reducible refine LeO.bind ?_ (fun _ => ?_))
      | exact ih0 _ _
      | exact LeO.none _
      | refine LeO.ite ?_ ?_
      | refine LeO.bind ?_ (fun _ => ?_)
theorem cooperageref1_Put.mono : ∀ a0 a1 k, LeO (cooperageref1_Put.f k a0 a1) (cooperageref1_Put.f (k + 1) a0 a1) := by
  intro a0 a1 k
  have ih0 := cooperageref1_Put.mono_l k
  unfold cooperageref1_Put.f
  repeat' first
      | (with_reducible exact ih0 _ _)
      | (with_reducible exact LeO.refl _)
      | (with_reducible exact LeO.none _)
      | (with_reducible refine LeO.ite ?_ ?_)
      | (with_reducible refine LeO.bind ?_ (fun _ => ?_))
      | exact ih0 _ _
      | exact LeO.none _
      | refine LeO.ite ?_ ?_
      | refine LeO.bind ?_ (fun _ => ?_)
set_option maxHeartbeats 8000000 in
set_option maxRecDepth 100000 in
theorem cooperageref1_Put.calls (k : Nat) (A0 : Option Addr) (c0 : Nat) (l0 : List Int) (a1 : Int) (r : List Int) (w : World) (hr0 : Kd.C (Kd.int .u8) w A0 l0.length l0) (hc0 : l0.length ≤ c0) (h : cooperageref1_Put.f k l0 a1 = some r) :
    Calls Try.prog 23 #[.slice A0 l0.length c0, .int .u64 a1] w fun e w' => ∃ v0_ : Value, e = .returned (v0_) ∧ Kd.R (Kd.int .u8) 5 w' w.heap.size (fun _ => True) v0_ r ∧ Below w.heap.size w w' := by
  have HR0 := Aside0.mk hr0
  have HC0 := Aside0.mk hc0
  clear hr0 hc0
  have HB := Aside0.mk (Below.refl w.heap.size w)
  have H : (if ([] : List Int).length + l0.length < 140737488355328 then (cooperageref1_Put.l0 k (([] : List Int) ++ l0) a1) else (none)) = some r := h
  clear h
  by_cases c3 : ([] : List Int).length + l0.length < 140737488355328
  · rw [if_pos c3] at H
    have LMc3 := Aside0.mk c3
    clear c3
    obtain ⟨y167, hy167⟩ : ∃ y_ : List Int, y_ = (([] : List Int) ++ l0) := ⟨_, rfl⟩
    replace H : (cooperageref1_Put.l0 k y167 a1) = some r := by first | (rw [hy167]; with_reducible exact H) | (have H2_ := (Option.bind_some _ _).symm.trans H; rw [hy167]; with_reducible exact H2_) | (have H2_ := (Option.bind_some _ _).symm.trans H; with_reducible exact H2_) | with_reducible exact H | (rw [hy167]; exact H) | exact H
    have Ny167 := Aside0.mk hy167
    clear hy167
    have H' := Aside0.mk H
    clear H
    go_enter Try.func23, Try.ntmps23
    go_wp2_with (first | ((with_reducible refine gate_builtin (b := .append) (xs := #[(.const (.slice none 0 0)), .tmp 5]) rfl ?_); at_builtin; refine Kd.R_append_rows (Kd.int .u8) (w0 := w) w.heap.size rfl (.const (.slice none 0 0)) (.tmp 5) 22 5 (.int .u8 0) 1 rfl Try.underlying22 info5 rfl (by decide) (by omega) (.slice none 0 0) ([] : List Int) l0 _ _ _ (fun _ => True) (fun _ => False) rfl rfl ?aO ?aR (fun _ _ h => h) (fun _ h => h.elim) ?aF ?aB ?aS ?aL ?_; (case aR => repeat (first | exact HR0.out | (with_reducible refine Kd.C_alloc ?_ _) | (with_reducible refine Kd.C_drewN ?_ _) | (with_reducible refine Kd.C_drew ?_))); (case aB => exact (by repeat (first | (with_reducible first | exact HB.out | apply below_alloc | apply pw_below_drewN | apply below_drew1) | exact HB.out))); (case aF => exact (fun _ _ => trivial)); (case aO => exact ((Kd.R_nil _ _ _ _ (fun _ => True)))); (case aS => exact (below_size (by repeat (first | (with_reducible first | exact HB.out | apply below_alloc | apply pw_below_drewN | apply below_drew1) | exact HB.out)))); (case aL => have := LMc3.out; omega); intro v168 w4 ho hb hg hat; rw [← Ny167.out] at ho; have n0_ := Aside0.mk (hb); have n1_ := Aside0.mk (ho); clear HB; have HB := n0_; have HO169 := n1_; clear n0_ n1_; clear ho hb hg hat))
    go_loopg [0, 1] k (fun kq v0 v1 w' => ∃ (x0_1 : List Int) (x1_1 : Int), v1 = .int .u64 x1_1 ∧ Aside0 (cooperageref1_Put.l0 kq x0_1 x1_1 = some r) ∧ Aside0 (kq ≤ k) ∧ Aside0 (Kd.R (Kd.int .u8) 5 w' w.heap.size (fun _ => True) v0 x0_1) ∧ Aside0 (Below w.heap.size w w'))
    case atStart => exact ⟨(y167), (a1), (by first | rfl | (simp; done) | (simp [*]; done)), H', ⟨Nat.le_refl _⟩, ⟨by (with_reducible repeat (first | apply Kd.R_alloc | apply Kd.R_drewN | apply Kd.R_drew)); exact HO169.out⟩, ⟨by repeat (first | (with_reducible first | exact HB.out | apply below_alloc | apply pw_below_drewN | apply below_drew1) | exact HB.out)⟩⟩
    case round =>
      clear H'
      try clear c2
      try clear p2
      try clear c3
      obtain ⟨x0_1, x1_1, rfl, HA, HK1, HO_0, HB⟩ := hrel
      cases gk with
      | zero => exact absurd HA.out (by simp [cooperageref1_Put.l0])
      | succ k1 =>
        have H := HA.out
        clear HA
        simp only [cooperageref1_Put.l0] at H
        by_cases c5 : x1_1 > 127
        · rw [if_pos c5] at H
          have c5b0 : decide (127 < x1_1) = true := decide_eq_true c5
          clear c5
          by_cases c6 : x0_1.length < 140737488355328
          · rw [if_pos c6] at H
            have LMc6 := Aside0.mk c6
            clear c6
            obtain ⟨y170, hy170⟩ : ∃ y_ : List Int, y_ = (x0_1 ++ [Go.bits .or .u8 ((Go.bits .and .u64 x1_1 127) % 256) 128]) := ⟨_, rfl⟩
            replace H : (cooperageref1_Put.l0 k1 y170 (x1_1 / 128)) = some r := by first | (rw [hy170]; with_reducible exact H) | (have H2_ := (Option.bind_some _ _).symm.trans H; rw [hy170]; with_reducible exact H2_) | (have H2_ := (Option.bind_some _ _).symm.trans H; with_reducible exact H2_) | with_reducible exact H | (rw [hy170]; exact H) | exact H
            have Ny170 := Aside0.mk hy170
            clear hy170
            have H' := Aside0.mk H
            clear H
            go_wp2_with (first | ((with_reducible refine gate_builtin (b := .append) (xs := #[(.tmp 9), .tmp 14]) rfl ?_); at_builtin; refine Kd.R_append (Kd.int .u8) (w0 := w) w.heap.size rfl (.tmp 9) (.tmp 14) 22 5 (.int .u8 0) 1 rfl Try.underlying22 info5 rfl (by decide) (by omega) u0 x0_1 (Go.bits .or .u8 ((Go.bits .and .u64 x1_1 127) % 256) 128) [.int .u8 (Go.bits .or .u8 ((Go.bits .and .u64 x1_1 127) % 256) 128)] (fun _ => True) (fun _ => False) rfl rfl ?aP (fun _ hk => hk.elim) ?aF ?aO ?aB ?aS ?aL ?_; (case aP => exact rfl); (case aB => exact (by repeat (first | (with_reducible first | exact HB.out | apply below_alloc | apply pw_below_drewN | apply below_drew1) | exact HB.out))); (case aF => exact (fun _ _ => trivial)); (case aO => exact (by (with_reducible repeat (first | apply Kd.R_alloc | apply Kd.R_drewN | apply Kd.R_drew)); exact HO_0.out)); (case aS => exact (below_size (by repeat (first | (with_reducible first | exact HB.out | apply below_alloc | apply pw_below_drewN | apply below_drew1) | exact HB.out)))); (case aL => have := LMc6.out; omega); intro v171 w7 ho hb hg hat; rw [← Ny170.out] at ho; have n0_ := Aside0.mk (hb); have n1_ := Aside0.mk (ho); clear HB; clear HO_0; have HB := n0_; have HO172 := n1_; clear n0_ n1_; clear ho hb hg hat))
            go_roundg k1
            case measure => have := HK1.out; omega
            case rel => exact ⟨(y170), (x1_1 / 128), (by first | rfl | (simp; done) | (simp [*]; done)), H', ⟨by have := HK1.out; omega⟩, ⟨by (with_reducible repeat (first | apply Kd.R_alloc | apply Kd.R_drewN | apply Kd.R_drew)); exact HO172.out⟩, ⟨by repeat (first | (with_reducible first | exact HB.out | apply below_alloc | apply pw_below_drewN | apply below_drew1) | exact HB.out)⟩⟩
          · rw [if_neg c6] at H
            exact absurd H (by simp)
        · rw [if_neg c5] at H
          have c5b0 : decide (127 < x1_1) = false := decide_eq_false c5
          clear c5
          by_cases c8 : x0_1.length < 140737488355328
          · rw [if_pos c8] at H
            have LMc8 := Aside0.mk c8
            clear c8
            obtain ⟨y173, hy173⟩ : ∃ y_ : List Int, y_ = (x0_1 ++ [(x1_1) % 256]) := ⟨_, rfl⟩
            replace H : (some y173) = some r := by first | (rw [hy173]; with_reducible exact H) | (have H2_ := (Option.bind_some _ _).symm.trans H; rw [hy173]; with_reducible exact H2_) | (have H2_ := (Option.bind_some _ _).symm.trans H; with_reducible exact H2_) | with_reducible exact H | (rw [hy173]; exact H) | exact H
            have Ny173 := Aside0.mk hy173
            clear hy173
            obtain rfl := Option.some.inj H
            go_wp2_with (first | ((with_reducible refine gate_builtin (b := .append) (xs := #[(.tmp 18), .tmp 21]) rfl ?_); at_builtin; refine Kd.R_append (Kd.int .u8) (w0 := w) w.heap.size rfl (.tmp 18) (.tmp 21) 22 5 (.int .u8 0) 1 rfl Try.underlying22 info5 rfl (by decide) (by omega) u0 x0_1 ((x1_1) % 256) [.int .u8 ((x1_1) % 256)] (fun _ => True) (fun _ => False) rfl rfl ?aP (fun _ hk => hk.elim) ?aF ?aO ?aB ?aS ?aL ?_; (case aP => exact rfl); (case aB => exact (by repeat (first | (with_reducible first | exact HB.out | apply below_alloc | apply pw_below_drewN | apply below_drew1) | exact HB.out))); (case aF => exact (fun _ _ => trivial)); (case aO => exact (by (with_reducible repeat (first | apply Kd.R_alloc | apply Kd.R_drewN | apply Kd.R_drew)); exact HO_0.out)); (case aS => exact (below_size (by repeat (first | (with_reducible first | exact HB.out | apply below_alloc | apply pw_below_drewN | apply below_drew1) | exact HB.out)))); (case aL => have := LMc8.out; omega); intro v174 w9 ho hb hg hat; rw [← Ny173.out] at ho; have n0_ := Aside0.mk (hb); have n1_ := Aside0.mk (ho); clear HB; clear HO_0; have HB := n0_; have HO175 := n1_; clear n0_ n1_; clear ho hb hg hat))
            go_ret
            exact ⟨_, by first | rfl | (simp [errW_none, errW_some] <;> rfl) | (simp [*, errW_none, errW_some] <;> rfl) | (simp [errW_none, errW_some]; generalize ByteArray.toList _ = l_; cases l_ <;> rfl), by (with_reducible repeat (first | apply Kd.R_alloc | apply Kd.R_drewN | apply Kd.R_drew)); exact HO175.out, by repeat (first | (with_reducible first | exact HB.out | apply below_alloc | apply pw_below_drewN | apply below_drew1) | exact HB.out)⟩
          · rw [if_neg c8] at H
            exact absurd H (by simp)
  · rw [if_neg c3] at H
    exact absurd H (by simp)

/-! ### varint_Get: function 24 -/
mutual
def varint_Get.l0 : Nat → Int → List Int → Int → Int → Option (Int × Int × Int)
  | 0, _, _, _, _ => none
  | k + 1, x5, x8, x9, x10 => if x10 < x9 then (if 0 ≤ x10 then (if x10 < (x8.length : Int) then (if x10 = 9 then (varint_Get.j1 k x5 x10 (rd x8 x10) x8 x9 x10 (decide ((rd x8 x10) > 1))) else (varint_Get.j1 k x5 x10 (rd x8 x10) x8 x9 x10 false)) else (none)) else (none)) else (some (0, 0, 4))
def varint_Get.j1 : Nat → Int → Int → Int → List Int → Int → Int → Bool → Option (Int × Int × Int)
  | 0, _, _, _, _, _, _, _ => none
  | k + 1, x5, x6, x7, x8, x9, x10, x24 => if x24 = true then (some (0, 0, 3)) else (if x7 ≥ 128 then (if 0 ≤ (wrap64 (7 * x6)) then (varint_Get.l0 k (Go.bits .or .u64 x5 (shl .u64 ((x7 - 128) % 256) (wrap64 (7 * x6)))) x8 x9 (wrap64 (x10 + 1))) else (none)) else (if x7 = 0 then (if x6 > 0 then (some (0, 0, 2)) else (if 0 ≤ (wrap64 (7 * x6)) then (some (Go.bits .or .u64 x5 (shl .u64 (IntKind.u64.wrap (x7)) (wrap64 (7 * x6))), wrap64 (x6 + 1), 0)) else (none))) else (if 0 ≤ (wrap64 (7 * x6)) then (some (Go.bits .or .u64 x5 (shl .u64 (IntKind.u64.wrap (x7)) (wrap64 (7 * x6))), wrap64 (x6 + 1), 0)) else (none))))
end
def varint_Get.f (k : Nat) (l0 : List Int) : Option (Int × Int × Int) := varint_Get.l0 k 0 l0 (l0.length : Int) 0
theorem varint_Get.mono_l : ∀ k, (∀ y0 y1 y2 y3, LeO (varint_Get.l0 k y0 y1 y2 y3) (varint_Get.l0 (k + 1) y0 y1 y2 y3)) ∧ (∀ y0 y1 y2 y3 y4 y5 y6, LeO (varint_Get.j1 k y0 y1 y2 y3 y4 y5 y6) (varint_Get.j1 (k + 1) y0 y1 y2 y3 y4 y5 y6))
  | 0 => ⟨fun _ _ _ _ r h => by simp [varint_Get.l0] at h, fun _ _ _ _ _ _ _ r h => by simp [varint_Get.j1] at h⟩
  | k + 1 => by
    obtain ⟨ih0, ih1⟩ := varint_Get.mono_l k
    refine ⟨?_, ?_⟩
    · intro y0 y1 y2 y3
      unfold varint_Get.l0
      repeat' first
      | (with_reducible exact ih0 _ _ _ _)
      | (with_reducible exact ih1 _ _ _ _ _ _ _)
      | (with_reducible exact LeO.refl _)
      | (with_reducible exact LeO.none _)
      | (with_reducible refine LeO.ite ?_ ?_)
      | (with_reducible refine LeO.bind ?_ (fun _ => ?_))
      | exact ih0 _ _ _ _
      | exact ih1 _ _ _ _ _ _ _
      | exact LeO.none _
      | refine LeO.ite ?_ ?_
      | refine LeO.bind ?_ (fun _ => ?_)
    · intro y0 y1 y2 y3 y4 y5 y6
      unfold varint_Get.j1
      repeat' first
      | (with_reducible exact ih0 _ _ _ _)
      | (with_reducible exact ih1 _ _ _ _ _ _ _)
      | (with_reducible exact LeO.refl _)
      | (with_reducible exact LeO.none _)
      | (with_reducible refine LeO.ite ?_ ?_)
      | (with_reducible refine LeO.bind ?_ (fun _ => ?_))
      | exact ih0 _ _ _ _
      | exact ih1 _ _ _ _ _ _ _
      | exact LeO.none _
      | refine LeO.ite ?_ ?_
      | refine LeO.bind ?_ (fun _ => ?_)
theorem varint_Get.mono : ∀ a0 k, LeO (varint_Get.f k a0) (varint_Get.f (k + 1) a0) := by
  intro a0 k
  obtain ⟨ih0, ih1⟩ := varint_Get.mono_l k
  unfold varint_Get.f
  repeat' first
      | (with_reducible exact ih0 _ _ _ _)
      | (with_reducible exact ih1 _ _ _ _ _ _ _)
      | (with_reducible exact LeO.refl _)
      | (with_reducible exact LeO.none _)
      | (with_reducible refine LeO.ite ?_ ?_)
      | (with_reducible refine LeO.bind ?_ (fun _ => ?_))
      | exact ih0 _ _ _ _
      | exact ih1 _ _ _ _ _ _ _
      | exact LeO.none _
      | refine LeO.ite ?_ ?_
      | refine LeO.bind ?_ (fun _ => ?_)
set_option maxHeartbeats 8000000 in
set_option maxRecDepth 100000 in
theorem varint_Get.calls (k : Nat) (A0 : Option Addr) (c0 : Nat) (l0 : List Int) (r1 : Int) (r2 : Int) (r3 : Int) (w : World) (hr0 : Kd.C (Kd.int .u8) w A0 l0.length l0) (hc0 : l0.length ≤ c0) (h : varint_Get.f k l0 = some (r1, r2, r3)) :
    Calls Try.prog 24 #[.slice A0 l0.length c0] w fun e w' => e = .returned (.tuple #[.int .u64 r1, .int .i64 r2, .int .i64 r3]) ∧ Drawn0 w w' := by
  have HR0 := Aside0.mk hr0
  have HC0 := Aside0.mk hc0
  clear hr0 hc0
  have H : (varint_Get.l0 k 0 l0 (l0.length : Int) 0) = some (r1, r2, r3) := h
  clear h
  have H' := Aside0.mk H
  clear H
  go_enter Try.func24, Try.ntmps24
  go_wp2
  go_loopg [5, 10] k (fun kq v5 v10 w' => ∃ (x5_1 : Int) (x10_1 : Int), v5 = .int .u64 x5_1 ∧ v10 = .int .i64 x10_1 ∧ Aside0 (varint_Get.l0 kq x5_1 l0 (l0.length : Int) x10_1 = some (r1, r2, r3)) ∧ Aside0 (kq ≤ k) ∧ Drawn0 w w')
  case atStart => exact ⟨(0), (0), (by first | rfl | (simp; done) | (simp [*]; done)), (by first | rfl | (simp; done) | (simp [*]; done)), H', ⟨Nat.le_refl _⟩, by repeat (first | exact Drawn0.refl _ | apply Drawn0.step)⟩
  case round =>
    clear H'
    obtain ⟨x5_1, x10_1, rfl, rfl, HA, HK1, ⟨m1, rfl⟩⟩ := hrel
    cases gk with
    | zero => exact absurd HA.out (by simp [varint_Get.l0])
    | succ k1 =>
      have H := HA.out
      clear HA
      simp only [varint_Get.l0] at H
      by_cases c2 : x10_1 < (l0.length : Int)
      · rw [if_pos c2] at H
        have c2b0 : decide (x10_1 < (l0.length : Int)) = true := decide_eq_true c2
        clear c2
        by_cases c3 : 0 ≤ x10_1
        · rw [if_pos c3] at H
          have c3b0 : decide (0 ≤ x10_1) = true := decide_eq_true c3
          clear c3
          by_cases c4 : x10_1 < (l0.length : Int)
          · rw [if_pos c4] at H
            have c4b0 : decide (x10_1 < (l0.length : Int)) = true := decide_eq_true c4
            clear c4
            have HC5 := Aside0.mk H
            clear H
            have p176 : 0 ≤ (x10_1 : Int) := of_decide_eq_true (by first | (with_reducible assumption) | assumption)
            have q176 : x10_1 < (l0.length : Int) := of_decide_eq_true (by first | (with_reducible assumption) | assumption)
            obtain ⟨ad176, e176, hx176_0⟩ := Kd.at_int HR0.out x10_1 p176 q176
            cases e176
            replace p176 := eq_true p176
            replace q176 := eq_true q176
            go_upto_region 6 with (fail)
            go_cut [24] (fun v24 wc => ∃ (kq : Nat) (x24_4 : Bool), v24 = .bool x24_4 ∧ Aside0 (varint_Get.j1 kq x5_1 x10_1 (rd l0 x10_1) l0 (l0.length : Int) x10_1 x24_4 = some (r1, r2, r3)) ∧ Aside0 (kq ≤ k1) ∧ Drawn0 w wc)
            case first =>
              have H := HC5.out
              clear HC5
              by_cases c6 : x10_1 = 9
              · rw [if_pos c6] at H
                have c6b0 : (x10_1 == 9) = true := beq_iff_eq.mpr c6
                have c6b1 : (x10_1 != 9) = false := bne_eq_false_iff_eq.mpr c6
                clear c6
                (first | rw [c6b0] | (simp only [i64_w, i32_w]; rw [c6b0]) | skip)
                have H' := Aside0.mk H
                clear H
                go_wp2
                go_meet
                case rel => exact ⟨_, (decide ((rd l0 x10_1) > 1)), (by first | rfl | (simp; done) | (simp [*]; done)), H', ⟨by have := HK1.out; first | omega | exact Nat.le_refl _⟩, by repeat (first | exact Drawn0.refl _ | apply Drawn0.step)⟩
              · rw [if_neg c6] at H
                have c6b0 : (x10_1 == 9) = false := beq_eq_false_iff_ne.mpr c6
                have c6b1 : (x10_1 != 9) = true := bne_iff_ne.mpr c6
                (first | rw [c6b0] | (simp only [i64_w, i32_w]; rw [c6b0]) | skip)
                have H' := Aside0.mk H
                clear H
                go_wp2
                go_meet
                case rel => exact ⟨_, (false), (by first | rfl | (simp; done) | (simp [*]; done)), H', ⟨by have := HK1.out; first | omega | exact Nat.le_refl _⟩, by repeat (first | exact Drawn0.refl _ | apply Drawn0.step)⟩
            case rest =>
              clear HC5
              try clear p1
              try clear q1
              try clear hx1
              try clear c2
              try clear c2b0
              try clear p2
              try clear c3
              try clear c3b0
              try clear c4
              try clear c4b0
              try clear c6
              try clear c6b0
              try clear c6b1
              try clear hx176_0
              try clear p176
              try clear q176
              obtain ⟨kq, x24_4, rfl, HA, HJ4, ⟨mc4, rfl⟩⟩ := hcut
              cases kq with
              | zero => exact absurd HA.out (by simp [varint_Get.j1])
              | succ kj4 =>
                have H := HA.out
                clear HA
                simp only [varint_Get.j1] at H
                by_cases c7 : x24_4 = true
                · subst c7
                  have H1 : (some (0, 0, 3)) = some (r1, r2, r3) := by rw [if_pos rfl] at H; exact H
                  clear H
                  have H := H1
                  clear H1
                  simp only [Option.some.injEq, Prod.mk.injEq] at H
                  obtain ⟨rfl, rfl, rfl⟩ := H
                  go_wp2
                  go_ret3
                  exact ⟨by first | rfl | (simp; done) | (simp [*]; done), by repeat (first | exact Drawn0.refl _ | apply Drawn0.step)⟩
                · replace c7 := Bool.eq_false_iff.mpr c7
                  subst c7
                  have H1 : (if (rd l0 x10_1) ≥ 128 then (if 0 ≤ (wrap64 (7 * x10_1)) then (varint_Get.l0 kj4 (Go.bits .or .u64 x5_1 (shl .u64 (((rd l0 x10_1) - 128) % 256) (wrap64 (7 * x10_1)))) l0 (l0.length : Int) (wrap64 (x10_1 + 1))) else (none)) else (if (rd l0 x10_1) = 0 then (if x10_1 > 0 then (some (0, 0, 2)) else (if 0 ≤ (wrap64 (7 * x10_1)) then (some (Go.bits .or .u64 x5_1 (shl .u64 (IntKind.u64.wrap ((rd l0 x10_1))) (wrap64 (7 * x10_1))), wrap64 (x10_1 + 1), 0)) else (none))) else (if 0 ≤ (wrap64 (7 * x10_1)) then (some (Go.bits .or .u64 x5_1 (shl .u64 (IntKind.u64.wrap ((rd l0 x10_1))) (wrap64 (7 * x10_1))), wrap64 (x10_1 + 1), 0)) else (none)))) = some (r1, r2, r3) := by rw [if_neg (show ¬ (false = true) by decide)] at H; exact H
                  clear H
                  have H := H1
                  clear H1
                  by_cases c8 : (rd l0 x10_1) ≥ 128
                  · rw [if_pos c8] at H
                    have c8b0 : decide (128 ≤ (rd l0 x10_1)) = true := decide_eq_true c8
                    clear c8
                    obtain ⟨ji9, hji9⟩ : ∃ j_ : Int, (wrap64 (7 * x10_1)) = j_ := ⟨_, rfl⟩
                    replace H : (if 0 ≤ (ji9) then (varint_Get.l0 kj4 (Go.bits .or .u64 x5_1 (shl .u64 (((rd l0 x10_1) - 128) % 256) (ji9))) l0 (l0.length : Int) (wrap64 (x10_1 + 1))) else (none)) = some (r1, r2, r3) := by first | (rw [hji9] at H; exact H) | (simp only [hji9] at H ⊢; exact H)
                    have hji9w : (IntKind.i64.wrap (7 * x10_1)) = ji9 := (i64_w _).trans hji9
                    by_cases c10 : 0 ≤ (ji9)
                    · rw [if_pos c10] at H
                      have c10b0 := eq_true c10
                      have c10b1 : decide (0 ≤ (ji9)) = true := decide_eq_true c10
                      clear c10
                      obtain ⟨ji11, hji11⟩ : ∃ j_ : Int, (shl .u64 (((rd l0 x10_1) - 128) % 256) (ji9)) = j_ := ⟨_, rfl⟩
                      replace H : (varint_Get.l0 kj4 (Go.bits .or .u64 x5_1 (ji11)) l0 (l0.length : Int) (wrap64 (x10_1 + 1))) = some (r1, r2, r3) := by first | (rw [hji11] at H; exact H) | (simp only [hji11] at H ⊢; exact H)
                      have hji11_ : (IntKind.u64.wrap ((((rd l0 x10_1) - 128) % 256) * 2 ^ min (ji9).toNat 64)) = ji11 := hji11
                      have hji11z : (ji9) ≤ 64 → (IntKind.u64.wrap ((((rd l0 x10_1) - 128) % 256) * 2 ^ (ji9).toNat)) = ji11 := shl_small hji11
                      have H' := Aside0.mk H
                      clear H
                      go_wp2
                      go_roundg kj4
                      case measure => have := HK1.out; have := HJ4.out; omega
                      case rel => exact ⟨(Go.bits .or .u64 x5_1 (ji11)), (wrap64 (x10_1 + 1)), (by first | rfl | (simp; done) | (simp only [← hji11] <;> (first | rfl | simp)) | (simp [*]; done)), (by first | rfl | (simp; done) | (simp [*]; done)), H', ⟨by have := HK1.out; have := HJ4.out; omega⟩, by repeat (first | exact Drawn0.refl _ | apply Drawn0.step)⟩
                    · rw [if_neg c10] at H
                      exact absurd H (by simp)
                  · rw [if_neg c8] at H
                    have c8b0 : decide (128 ≤ (rd l0 x10_1)) = false := decide_eq_false c8
                    clear c8
                    by_cases c12 : (rd l0 x10_1) = 0
                    · rw [if_pos c12] at H
                      have c12b0 : ((rd l0 x10_1) == 0) = true := beq_iff_eq.mpr c12
                      have c12b1 : ((rd l0 x10_1) != 0) = false := bne_eq_false_iff_eq.mpr c12
                      clear c12
                      by_cases c13 : x10_1 > 0
                      · rw [if_pos c13] at H
                        have c13b0 : decide (0 < x10_1) = true := decide_eq_true c13
                        clear c13
                        simp only [Option.some.injEq, Prod.mk.injEq] at H
                        obtain ⟨rfl, rfl, rfl⟩ := H
                        go_wp2
                        go_ret3
                        exact ⟨by first | rfl | (simp; done) | (simp [*]; done), by repeat (first | exact Drawn0.refl _ | apply Drawn0.step)⟩
                      · rw [if_neg c13] at H
                        have c13b0 : decide (0 < x10_1) = false := decide_eq_false c13
                        clear c13
                        obtain ⟨ji14, hji14⟩ : ∃ j_ : Int, (wrap64 (7 * x10_1)) = j_ := ⟨_, rfl⟩
                        replace H : (if 0 ≤ (ji14) then (some (Go.bits .or .u64 x5_1 (shl .u64 (IntKind.u64.wrap ((rd l0 x10_1))) (ji14)), wrap64 (x10_1 + 1), 0)) else (none)) = some (r1, r2, r3) := by first | (rw [hji14] at H; exact H) | (simp only [hji14] at H ⊢; exact H)
                        (try rw [hji14] at hji9)
                        (try rw [hji14] at hji9w)
                        have hji14w : (IntKind.i64.wrap (7 * x10_1)) = ji14 := (i64_w _).trans hji14
                        by_cases c15 : 0 ≤ (ji14)
                        · rw [if_pos c15] at H
                          have c15b0 := eq_true c15
                          have c15b1 : decide (0 ≤ (ji14)) = true := decide_eq_true c15
                          clear c15
                          obtain ⟨ji16, hji16⟩ : ∃ j_ : Int, (shl .u64 (IntKind.u64.wrap ((rd l0 x10_1))) (ji14)) = j_ := ⟨_, rfl⟩
                          replace H : (some (Go.bits .or .u64 x5_1 (ji16), wrap64 (x10_1 + 1), 0)) = some (r1, r2, r3) := by first | (rw [hji16] at H; exact H) | (simp only [hji16] at H ⊢; exact H)
                          have hji16_ : (IntKind.u64.wrap ((IntKind.u64.wrap ((rd l0 x10_1))) * 2 ^ min (ji14).toNat 64)) = ji16 := hji16
                          have hji16z : (ji14) ≤ 64 → (IntKind.u64.wrap ((IntKind.u64.wrap ((rd l0 x10_1))) * 2 ^ (ji14).toNat)) = ji16 := shl_small hji16
                          simp only [Option.some.injEq, Prod.mk.injEq] at H
                          obtain ⟨rfl, rfl, rfl⟩ := H
                          go_wp2
                          go_ret3
                          exact ⟨by first | rfl | (simp; done) | (simp only [← hji14, ← hji16] <;> (first | rfl | simp)) | (simp [*]; done), by repeat (first | exact Drawn0.refl _ | apply Drawn0.step)⟩
                        · rw [if_neg c15] at H
                          exact absurd H (by simp)
                    · rw [if_neg c12] at H
                      have c12b0 : ((rd l0 x10_1) == 0) = false := beq_eq_false_iff_ne.mpr c12
                      have c12b1 : ((rd l0 x10_1) != 0) = true := bne_iff_ne.mpr c12
                      obtain ⟨ji17, hji17⟩ : ∃ j_ : Int, (wrap64 (7 * x10_1)) = j_ := ⟨_, rfl⟩
                      replace H : (if 0 ≤ (ji17) then (some (Go.bits .or .u64 x5_1 (shl .u64 (IntKind.u64.wrap ((rd l0 x10_1))) (ji17)), wrap64 (x10_1 + 1), 0)) else (none)) = some (r1, r2, r3) := by first | (rw [hji17] at H; exact H) | (simp only [hji17] at H ⊢; exact H)
                      (try rw [hji17] at hji9)
                      (try rw [hji17] at hji9w)
                      (try rw [hji17] at hji14)
                      (try rw [hji17] at hji14w)
                      have hji17w : (IntKind.i64.wrap (7 * x10_1)) = ji17 := (i64_w _).trans hji17
                      by_cases c18 : 0 ≤ (ji17)
                      · rw [if_pos c18] at H
                        have c18b0 := eq_true c18
                        have c18b1 : decide (0 ≤ (ji17)) = true := decide_eq_true c18
                        clear c18
                        obtain ⟨ji19, hji19⟩ : ∃ j_ : Int, (shl .u64 (IntKind.u64.wrap ((rd l0 x10_1))) (ji17)) = j_ := ⟨_, rfl⟩
                        replace H : (some (Go.bits .or .u64 x5_1 (ji19), wrap64 (x10_1 + 1), 0)) = some (r1, r2, r3) := by first | (rw [hji19] at H; exact H) | (simp only [hji19] at H ⊢; exact H)
                        have hji19_ : (IntKind.u64.wrap ((IntKind.u64.wrap ((rd l0 x10_1))) * 2 ^ min (ji17).toNat 64)) = ji19 := hji19
                        have hji19z : (ji17) ≤ 64 → (IntKind.u64.wrap ((IntKind.u64.wrap ((rd l0 x10_1))) * 2 ^ (ji17).toNat)) = ji19 := shl_small hji19
                        simp only [Option.some.injEq, Prod.mk.injEq] at H
                        obtain ⟨rfl, rfl, rfl⟩ := H
                        go_wp2
                        go_ret3
                        exact ⟨by first | rfl | (simp; done) | (simp only [← hji17, ← hji19] <;> (first | rfl | simp)) | (simp [*]; done), by repeat (first | exact Drawn0.refl _ | apply Drawn0.step)⟩
                      · rw [if_neg c18] at H
                        exact absurd H (by simp)
          · rw [if_neg c4] at H
            exact absurd H (by simp)
        · rw [if_neg c3] at H
          exact absurd H (by simp)
      · rw [if_neg c2] at H
        have c2b0 : decide (x10_1 < (l0.length : Int)) = false := decide_eq_false c2
        clear c2
        simp only [Option.some.injEq, Prod.mk.injEq] at H
        obtain ⟨rfl, rfl, rfl⟩ := H
        go_wp2
        go_ret3
        exact ⟨by first | rfl | (simp; done) | (simp [*]; done), by repeat (first | exact Drawn0.refl _ | apply Drawn0.step)⟩

/-! ### cooperagelaw1_num: function 25 -/
def cooperagelaw1_num.f (a0 : Int) : Option (Int) := some a0
set_option maxHeartbeats 8000000 in
set_option maxRecDepth 100000 in
theorem cooperagelaw1_num.calls (a0 : Int) (r : Int) (w : World) (h : cooperagelaw1_num.f a0 = some r) :
    Calls Try.prog 25 #[.int .i64 a0] w fun e w' => e = .returned (.int .i64 r) ∧ Drawn0 w w' := by
  have H : (some a0) = some r := h
  clear h
  obtain rfl := Option.some.inj H
  go_enter Try.func25, Try.ntmps25
  go_wp2
  go_ret
  exact ⟨by first | rfl | (simp; done) | (simp [*]; done), by repeat (first | exact Drawn0.refl _ | apply Drawn0.step)⟩

end Go.Proofs.Ytdehemcahangmaa.P

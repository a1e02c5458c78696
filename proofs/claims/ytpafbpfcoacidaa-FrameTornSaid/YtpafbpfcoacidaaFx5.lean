-- printed by a program of this session (a changed copy of the kit's printer)
import Derived.Test.YtpafbpfcoacidaaFx0
import Derived.Test.YtpafbpfcoacidaaFx1
import Derived.Test.YtpafbpfcoacidaaFx2
import Derived.Test.YtpafbpfcoacidaaFx3
namespace Go.Proofs.Ytpafbpfcoacidaa.F
open Go.RowKit Go.Proofs.YtpafbpfcoacidaaW.PrintWords Go.Proofs.YtpafbpfcoacidaaW.PrintLast Go.Proofs.YtpafbpfcoacidaaW.PrintMore
attribute [local go_sem] max2_int min2_int max_two min_two max_three min_three max_four min_four   -- for this text's walks alone
set_option linter.unusedVariables false
set_option linter.unusedSimpArgs false

/-! ### cooperagelaw5_FrameTurns: function 5 -/
def cooperagelaw5_FrameTurns.j0 : Nat → List Int → Int → Int → Bool → Bool → Option (Bool)
  | 0, _, _, _, _, _ => none
  | k + 1, x0, x1, x2, x7, x30 => if x30 = true then (some x7) else ((cooperageref1_PutFrame.f k ([] : List Int) x0).bind fun t199 => (if (wrap64 ((x0.length : Int) + 4)) = 0 then (none) else (if 0 ≤ (wrap64 ((wrap64 ((wrap64 ((t199.length : Int) - (x0.length : Int))) - 4)) + (Int.tmod x1 (wrap64 ((x0.length : Int) + 4))))) then (if (wrap64 ((wrap64 ((wrap64 ((t199.length : Int) - (x0.length : Int))) - 4)) + (Int.tmod x1 (wrap64 ((x0.length : Int) + 4))))) < (t199.length : Int) then (if 0 ≤ (IntKind.u64.wrap (Go.bits .and .i64 x2 7)) then ((frame_Get.f k (t199.set ((wrap64 ((wrap64 ((wrap64 ((t199.length : Int) - (x0.length : Int))) - 4)) + (Int.tmod x1 (wrap64 ((x0.length : Int) + 4))))) : Int).toNat (Go.bits .xor .u8 (rd t199 (wrap64 ((wrap64 ((wrap64 ((t199.length : Int) - (x0.length : Int))) - 4)) + (Int.tmod x1 (wrap64 ((x0.length : Int) + 4)))))) (shl .u8 1 (IntKind.u64.wrap (Go.bits .and .i64 x2 7)))))).bind fun bt204 => ((cooperagelaw5_num.f bt204.2.2).bind fun t209 => (if t209 = 5 then (if (bt204.1.length : Int) = 0 then (some (bt204.2.1 == 0)) else (some false)) else (some false)))) else (none)) else (none)) else (none))))
def cooperagelaw5_FrameTurns.f (k : Nat) (l0 : List Int) (a1 : Int) (a2 : Int) : Option (Bool) := (cooperagelaw5_alive.f k).bind fun t198 => (if t198 = true then (if (l0.length : Int) < 1 then (cooperagelaw5_FrameTurns.j0 k l0 a1 a2 t198 true) else (if (l0.length : Int) > 300 then (cooperagelaw5_FrameTurns.j0 k l0 a1 a2 t198 true) else (cooperagelaw5_FrameTurns.j0 k l0 a1 a2 t198 (decide (a1 < 0))))) else (cooperagelaw5_FrameTurns.j0 k l0 a1 a2 t198 true))
theorem cooperagelaw5_FrameTurns.mono_l : ∀ k, (∀ y0 y1 y2 y3 y4, LeO (cooperagelaw5_FrameTurns.j0 k y0 y1 y2 y3 y4) (cooperagelaw5_FrameTurns.j0 (k + 1) y0 y1 y2 y3 y4))
  | 0 => fun _ _ _ _ _ r h => by simp [cooperagelaw5_FrameTurns.j0] at h
  | k + 1 => by
    have ih0 := cooperagelaw5_FrameTurns.mono_l k
    · intro y0 y1 y2 y3 y4
      unfold cooperagelaw5_FrameTurns.j0
      repeat' first
      | (with_reducible exact ih0 _ _ _ _ _)
      | (with_reducible exact cooperagelaw5_alive.mono _)
      | (with_reducible exact cooperageref1_PutFrame.mono _ _ _)
      | (with_reducible exact frame_Get.mono _ _)
      | (with_reducible exact LeO.refl _)
      | (with_reducible exact LeO.none _)
      | (with_reducible refine LeO.ite ?_ ?_)
      | (with_reducible refine LeO.bind ?_ (fun _ => ?_))
      | exact ih0 _ _ _ _ _
      | exact cooperagelaw5_alive.mono _
      | exact cooperageref1_PutFrame.mono _ _ _
      | exact frame_Get.mono _ _
      | exact LeO.none _
      | refine LeO.ite ?_ ?_
      | refine LeO.bind ?_ (fun _ => ?_)
theorem cooperagelaw5_FrameTurns.mono : ∀ a0 a1 a2 k, LeO (cooperagelaw5_FrameTurns.f k a0 a1 a2) (cooperagelaw5_FrameTurns.f (k + 1) a0 a1 a2) := by
  intro a0 a1 a2 k
  have ih0 := cooperagelaw5_FrameTurns.mono_l k
  unfold cooperagelaw5_FrameTurns.f
  repeat' first
      | (with_reducible exact ih0 _ _ _ _ _)
      | (with_reducible exact cooperagelaw5_alive.mono _)
      | (with_reducible exact cooperageref1_PutFrame.mono _ _ _)
      | (with_reducible exact frame_Get.mono _ _)
      | (with_reducible exact LeO.refl _)
      | (with_reducible exact LeO.none _)
      | (with_reducible refine LeO.ite ?_ ?_)
      | (with_reducible refine LeO.bind ?_ (fun _ => ?_))
      | exact ih0 _ _ _ _ _
      | exact cooperagelaw5_alive.mono _
      | exact cooperageref1_PutFrame.mono _ _ _
      | exact frame_Get.mono _ _
      | exact LeO.none _
      | refine LeO.ite ?_ ?_
      | refine LeO.bind ?_ (fun _ => ?_)
set_option maxHeartbeats 8000000 in
set_option maxRecDepth 100000 in
theorem cooperagelaw5_FrameTurns.calls (k : Nat) (A0 : Option Addr) (c0 : Nat) (l0 : List Int) (a1 : Int) (a2 : Int) (r : Bool) (w : World) (hr0 : Kd.C (Kd.int .u8) w A0 l0.length l0) (hc0 : l0.length ≤ c0) (h : cooperagelaw5_FrameTurns.f k l0 a1 a2 = some r) :
    Calls Try.prog 5 #[.slice A0 l0.length c0, .int .i64 a1, .int .i64 a2] w fun e w' => e = .returned (.bool r) ∧ Below w.heap.size w w' := by
  have HR0 := Aside0.mk hr0
  have HC0 := Aside0.mk hc0
  clear hr0 hc0
  have HB := Aside0.mk (Below.refl w.heap.size w)
  have H : ((cooperagelaw5_alive.f k).bind fun t198 => (if t198 = true then (if (l0.length : Int) < 1 then (cooperagelaw5_FrameTurns.j0 k l0 a1 a2 t198 true) else (if (l0.length : Int) > 300 then (cooperagelaw5_FrameTurns.j0 k l0 a1 a2 t198 true) else (cooperagelaw5_FrameTurns.j0 k l0 a1 a2 t198 (decide (a1 < 0))))) else (cooperagelaw5_FrameTurns.j0 k l0 a1 a2 t198 true))) = some r := h
  clear h
  replace H := Option.bind_eq_some_iff.mp H
  obtain ⟨t198, A40, H⟩ := H
  replace H : (if t198 = true then (if (l0.length : Int) < 1 then (cooperagelaw5_FrameTurns.j0 k l0 a1 a2 t198 true) else (if (l0.length : Int) > 300 then (cooperagelaw5_FrameTurns.j0 k l0 a1 a2 t198 true) else (cooperagelaw5_FrameTurns.j0 k l0 a1 a2 t198 (decide (a1 < 0))))) else (cooperagelaw5_FrameTurns.j0 k l0 a1 a2 t198 true)) = some r := H
  have A4 := Aside0.mk A40
  clear A40
  have HC5 := Aside0.mk H
  clear H
  go_enter Try.func5, Try.ntmps5
  go_upto_region 2 with (first | ((with_reducible refine gate_callee (f := 16) rfl ?_); refine goesL_ (some 14) rfl rfl Try.func16 (by kernel_rfl) rfl #[] rfl (by (try simp only [List.map_toArray, List.map_cons, List.map_nil]); first | done | rfl | (simp only [List.length_drop, List.length_take]; rfl)) ?_; (with_reducible refine (cooperagelaw5_alive.calls k  t198 _ A4.out).mono ?_); rintro e w6 ⟨rfl, hb⟩; refine ⟨_, rfl, ?_⟩; have n0_ := Aside0.mk (below_step (by repeat (first | (with_reducible first | exact HB.out | apply below_alloc | apply pw_below_drewN | apply below_drew1) | exact HB.out)) hb); clear HB; have HB := n0_; clear n0_; (try clear hb); (try clear hb2); (try clear hk); (try clear hi)))
  (try simp only [Act.put, List.setIfInBounds_toArray, List.set_cons_zero, List.set_cons_succ])
  go_cut [30] (fun v30 wc => ∃ (kq : Nat) (x30_4 : Bool), v30 = .bool x30_4 ∧ Aside0 (cooperagelaw5_FrameTurns.j0 kq l0 a1 a2 t198 x30_4 = some r) ∧ Aside0 (kq ≤ k) ∧ Aside0 (Below w.heap.size w wc))
  case first =>
    have H := HC5.out
    clear HC5
    by_cases c7 : t198 = true
    · subst c7
      have H1 : (if (l0.length : Int) < 1 then (cooperagelaw5_FrameTurns.j0 k l0 a1 a2 true true) else (if (l0.length : Int) > 300 then (cooperagelaw5_FrameTurns.j0 k l0 a1 a2 true true) else (cooperagelaw5_FrameTurns.j0 k l0 a1 a2 true (decide (a1 < 0))))) = some r := by rw [if_pos rfl] at H; exact H
      clear H
      have H := H1
      clear H1
      by_cases c8 : (l0.length : Int) < 1
      · rw [if_pos c8] at H
        have c8b0 : decide ((l0.length : Int) < 1) = true := decide_eq_true c8
        have c8b1 : decide (l0.length < 1) = true := decide_eq_true (by omega)
        clear c8
        (first | rw [c8b0] | (simp only [i64_w, i32_w]; rw [c8b0]) | skip)
        have H' := Aside0.mk H
        clear H
        go_wp2
        go_meet
        case rel => exact ⟨_, (true), (by first | rfl | (simp; done) | (simp [*]; done)), H', ⟨by first | omega | exact Nat.le_refl _⟩, ⟨by repeat (first | (with_reducible first | exact HB.out | apply below_alloc | apply pw_below_drewN | apply below_drew1) | exact HB.out)⟩⟩
      · rw [if_neg c8] at H
        have c8b0 : decide ((l0.length : Int) < 1) = false := decide_eq_false c8
        have c8b1 : decide (l0.length < 1) = false := decide_eq_false (by omega)
        clear c8
        (first | rw [c8b0] | (simp only [i64_w, i32_w]; rw [c8b0]) | skip)
        by_cases c9 : (l0.length : Int) > 300
        · rw [if_pos c9] at H
          have c9b0 : decide (300 < (l0.length : Int)) = true := decide_eq_true c9
          have c9b1 : decide (300 < l0.length) = true := decide_eq_true (by omega)
          clear c9
          have H' := Aside0.mk H
          clear H
          go_wp2
          go_meet
          case rel => exact ⟨_, (true), (by first | rfl | (simp; done) | (simp [*]; done)), H', ⟨by first | omega | exact Nat.le_refl _⟩, ⟨by repeat (first | (with_reducible first | exact HB.out | apply below_alloc | apply pw_below_drewN | apply below_drew1) | exact HB.out)⟩⟩
        · rw [if_neg c9] at H
          have c9b0 : decide (300 < (l0.length : Int)) = false := decide_eq_false c9
          have c9b1 : decide (300 < l0.length) = false := decide_eq_false (by omega)
          clear c9
          have H' := Aside0.mk H
          clear H
          go_wp2
          go_meet
          case rel => exact ⟨_, (decide (a1 < 0)), (by first | rfl | (simp; done) | (simp [*]; done)), H', ⟨by first | omega | exact Nat.le_refl _⟩, ⟨by repeat (first | (with_reducible first | exact HB.out | apply below_alloc | apply pw_below_drewN | apply below_drew1) | exact HB.out)⟩⟩
    · replace c7 := Bool.eq_false_iff.mpr c7
      subst c7
      have H1 : (cooperagelaw5_FrameTurns.j0 k l0 a1 a2 false true) = some r := by rw [if_neg (show ¬ (false = true) by decide)] at H; exact H
      clear H
      have H := H1
      clear H1
      have H' := Aside0.mk H
      clear H
      go_wp2
      go_meet
      case rel => exact ⟨_, (true), (by first | rfl | (simp; done) | (simp [*]; done)), H', ⟨by first | omega | exact Nat.le_refl _⟩, ⟨by repeat (first | (with_reducible first | exact HB.out | apply below_alloc | apply pw_below_drewN | apply below_drew1) | exact HB.out)⟩⟩
  case rest =>
    clear HC5
    try clear c1
    try clear p2
    try clear c5
    try clear c7
    try clear c8
    try clear c8b0
    try clear c8b1
    try clear c9
    try clear c9b0
    try clear c9b1
    obtain ⟨kq, x30_4, rfl, HA, HJ4, HB⟩ := hcut
    cases kq with
    | zero => exact absurd HA.out (by simp [cooperagelaw5_FrameTurns.j0])
    | succ kj4 =>
      have H := HA.out
      clear HA
      simp only [cooperagelaw5_FrameTurns.j0] at H
      by_cases c10 : x30_4 = true
      · subst c10
        have H1 : (some t198) = some r := by rw [if_pos rfl] at H; exact H
        clear H
        have H := H1
        clear H1
        obtain rfl := Option.some.inj H
        go_wp2
        go_ret
        exact ⟨by first | rfl | (simp [errW_none, errW_some] <;> rfl) | (simp [*, errW_none, errW_some] <;> rfl) | (simp [errW_none, errW_some]; generalize ByteArray.toList _ = l_; cases l_ <;> rfl), by repeat (first | (with_reducible first | exact HB.out | apply below_alloc | apply pw_below_drewN | apply below_drew1) | exact HB.out)⟩
      · replace c10 := Bool.eq_false_iff.mpr c10
        subst c10
        have H1 : ((cooperageref1_PutFrame.f kj4 ([] : List Int) l0).bind fun t199 => (if (wrap64 ((l0.length : Int) + 4)) = 0 then (none) else (if 0 ≤ (wrap64 ((wrap64 ((wrap64 ((t199.length : Int) - (l0.length : Int))) - 4)) + (Int.tmod a1 (wrap64 ((l0.length : Int) + 4))))) then (if (wrap64 ((wrap64 ((wrap64 ((t199.length : Int) - (l0.length : Int))) - 4)) + (Int.tmod a1 (wrap64 ((l0.length : Int) + 4))))) < (t199.length : Int) then (if 0 ≤ (IntKind.u64.wrap (Go.bits .and .i64 a2 7)) then ((frame_Get.f kj4 (t199.set ((wrap64 ((wrap64 ((wrap64 ((t199.length : Int) - (l0.length : Int))) - 4)) + (Int.tmod a1 (wrap64 ((l0.length : Int) + 4))))) : Int).toNat (Go.bits .xor .u8 (rd t199 (wrap64 ((wrap64 ((wrap64 ((t199.length : Int) - (l0.length : Int))) - 4)) + (Int.tmod a1 (wrap64 ((l0.length : Int) + 4)))))) (shl .u8 1 (IntKind.u64.wrap (Go.bits .and .i64 a2 7)))))).bind fun bt204 => ((cooperagelaw5_num.f bt204.2.2).bind fun t209 => (if t209 = 5 then (if (bt204.1.length : Int) = 0 then (some (bt204.2.1 == 0)) else (some false)) else (some false)))) else (none)) else (none)) else (none)))) = some r := by rw [if_neg (show ¬ (false = true) by decide)] at H; exact H
        clear H
        have H := H1
        clear H1
        replace H := Option.bind_eq_some_iff.mp H
        obtain ⟨t199, A110, H⟩ := H
        replace H : (if (wrap64 ((l0.length : Int) + 4)) = 0 then (none) else (if 0 ≤ (wrap64 ((wrap64 ((wrap64 ((t199.length : Int) - (l0.length : Int))) - 4)) + (Int.tmod a1 (wrap64 ((l0.length : Int) + 4))))) then (if (wrap64 ((wrap64 ((wrap64 ((t199.length : Int) - (l0.length : Int))) - 4)) + (Int.tmod a1 (wrap64 ((l0.length : Int) + 4))))) < (t199.length : Int) then (if 0 ≤ (IntKind.u64.wrap (Go.bits .and .i64 a2 7)) then ((frame_Get.f kj4 (t199.set ((wrap64 ((wrap64 ((wrap64 ((t199.length : Int) - (l0.length : Int))) - 4)) + (Int.tmod a1 (wrap64 ((l0.length : Int) + 4))))) : Int).toNat (Go.bits .xor .u8 (rd t199 (wrap64 ((wrap64 ((wrap64 ((t199.length : Int) - (l0.length : Int))) - 4)) + (Int.tmod a1 (wrap64 ((l0.length : Int) + 4)))))) (shl .u8 1 (IntKind.u64.wrap (Go.bits .and .i64 a2 7)))))).bind fun bt204 => ((cooperagelaw5_num.f bt204.2.2).bind fun t209 => (if t209 = 5 then (if (bt204.1.length : Int) = 0 then (some (bt204.2.1 == 0)) else (some false)) else (some false)))) else (none)) else (none)) else (none))) = some r := H
        have A11 := Aside0.mk A110
        clear A110
        by_cases c12 : (wrap64 ((l0.length : Int) + 4)) = 0
        · rw [if_pos c12] at H
          exact absurd H (by simp)
        · rw [if_neg c12] at H
          have c12b0 : ((wrap64 ((l0.length : Int) + 4)) == 0) = false := beq_eq_false_iff_ne.mpr c12
          have c12b1 : ((wrap64 ((l0.length : Int) + 4)) != 0) = true := bne_iff_ne.mpr c12
          obtain ⟨ji13, hji13⟩ : ∃ j_ : Int, (wrap64 ((wrap64 ((wrap64 ((t199.length : Int) - (l0.length : Int))) - 4)) + (Int.tmod a1 (wrap64 ((l0.length : Int) + 4))))) = j_ := ⟨_, rfl⟩
          replace H : (if 0 ≤ (ji13) then (if (ji13) < (t199.length : Int) then (if 0 ≤ (IntKind.u64.wrap (Go.bits .and .i64 a2 7)) then ((frame_Get.f kj4 (t199.set ((ji13) : Int).toNat (Go.bits .xor .u8 (rd t199 (ji13)) (shl .u8 1 (IntKind.u64.wrap (Go.bits .and .i64 a2 7)))))).bind fun bt204 => ((cooperagelaw5_num.f bt204.2.2).bind fun t209 => (if t209 = 5 then (if (bt204.1.length : Int) = 0 then (some (bt204.2.1 == 0)) else (some false)) else (some false)))) else (none)) else (none)) else (none)) = some r := by first | (rw [hji13] at H; exact H) | (simp only [hji13] at H ⊢; exact H)
          (try rw [hji13] at A11)
          have hji13w : (IntKind.i64.wrap ((wrap64 ((wrap64 ((t199.length : Int) - (l0.length : Int))) - 4)) + (Int.tmod a1 (wrap64 ((l0.length : Int) + 4))))) = ji13 := (i64_w _).trans hji13
          by_cases c14 : 0 ≤ (ji13)
          · rw [if_pos c14] at H
            have c14b0 : decide (0 ≤ (ji13)) = true := decide_eq_true c14
            clear c14
            by_cases c15 : (ji13) < (t199.length : Int)
            · rw [if_pos c15] at H
              have c15b0 : decide ((ji13) < (t199.length : Int)) = true := decide_eq_true c15
              clear c15
              obtain ⟨ji16, hji16⟩ : ∃ j_ : Int, (IntKind.u64.wrap (Go.bits .and .i64 a2 7)) = j_ := ⟨_, rfl⟩
              replace H : (if 0 ≤ (ji16) then ((frame_Get.f kj4 (t199.set ((ji13) : Int).toNat (Go.bits .xor .u8 (rd t199 (ji13)) (shl .u8 1 (ji16))))).bind fun bt204 => ((cooperagelaw5_num.f bt204.2.2).bind fun t209 => (if t209 = 5 then (if (bt204.1.length : Int) = 0 then (some (bt204.2.1 == 0)) else (some false)) else (some false)))) else (none)) = some r := by first | (rw [hji16] at H; exact H) | (simp only [hji16] at H ⊢; exact H)
              (try rw [hji16] at A11)
              by_cases c17 : 0 ≤ (ji16)
              · rw [if_pos c17] at H
                have c17b0 := eq_true c17
                have c17b1 : decide (0 ≤ (ji16)) = true := decide_eq_true c17
                clear c17
                obtain ⟨ji18, hji18⟩ : ∃ j_ : Int, (shl .u8 1 (ji16)) = j_ := ⟨_, rfl⟩
                replace H : ((frame_Get.f kj4 (t199.set ((ji13) : Int).toNat (Go.bits .xor .u8 (rd t199 (ji13)) (ji18)))).bind fun bt204 => ((cooperagelaw5_num.f bt204.2.2).bind fun t209 => (if t209 = 5 then (if (bt204.1.length : Int) = 0 then (some (bt204.2.1 == 0)) else (some false)) else (some false)))) = some r := by first | (rw [hji18] at H; exact H) | (simp only [hji18] at H ⊢; exact H)
                (try rw [hji18] at A11)
                have hji18_ : (IntKind.u8.wrap (1 * 2 ^ min (ji16).toNat 8)) = ji18 := hji18
                have hji18z : (ji16) ≤ 8 → (IntKind.u8.wrap (1 * 2 ^ (ji16).toNat)) = ji18 := shl_small hji18
                have hji18u : (IntKind.u8.wrap (2 ^ min (ji16).toNat 8)) = ji18 := by have h_ := hji18_; rw [Int.one_mul] at h_; exact h_
                have hji18v : (ji16) ≤ 8 → (IntKind.u8.wrap (2 ^ (ji16).toNat)) = ji18 := fun hle_ => by have h_ := hji18z hle_; rw [Int.one_mul] at h_; exact h_
                obtain ⟨y203, hy203⟩ : ∃ y_ : List Int, y_ = (t199.set ((ji13) : Int).toNat (Go.bits .xor .u8 (rd t199 (ji13)) (ji18))) := ⟨_, rfl⟩
                replace H : ((frame_Get.f kj4 y203).bind fun bt204 => ((cooperagelaw5_num.f bt204.2.2).bind fun t209 => (if t209 = 5 then (if (bt204.1.length : Int) = 0 then (some (bt204.2.1 == 0)) else (some false)) else (some false)))) = some r := by first | (rw [hy203]; with_reducible exact H) | (have H2_ := (Option.bind_some _ _).symm.trans H; rw [hy203]; with_reducible exact H2_) | (have H2_ := (Option.bind_some _ _).symm.trans H; with_reducible exact H2_) | with_reducible exact H | (rw [hy203]; exact H) | exact H
                have Ny203 := Aside0.mk hy203
                clear hy203
                replace H := Option.bind_eq_some_iff.mp H
                obtain ⟨⟨t204, t205, t206⟩, A200, H⟩ := H
                replace H : ((cooperagelaw5_num.f t206).bind fun t209 => (if t209 = 5 then (if (t204.length : Int) = 0 then (some (t205 == 0)) else (some false)) else (some false))) = some r := H
                have A20 := Aside0.mk A200
                clear A200
                replace H := Option.bind_eq_some_iff.mp H
                obtain ⟨t209, A210, H⟩ := H
                replace H : (if t209 = 5 then (if (t204.length : Int) = 0 then (some (t205 == 0)) else (some false)) else (some false)) = some r := H
                have A21 := Aside0.mk A210
                clear A210
                by_cases c22 : t209 = 5
                · rw [if_pos c22] at H
                  have c22b0 : (t209 == 5) = true := beq_iff_eq.mpr c22
                  have c22b1 : (t209 != 5) = false := bne_eq_false_iff_eq.mpr c22
                  clear c22
                  by_cases c23 : (t204.length : Int) = 0
                  · rw [if_pos c23] at H
                    have c23b0 : ((t204.length : Int) == 0) = true := beq_iff_eq.mpr c23
                    have c23b1 : ((t204.length : Int) != 0) = false := bne_eq_false_iff_eq.mpr c23
                    clear c23
                    obtain rfl := Option.some.inj H
                    go_wp2_with (first | ((with_reducible refine gate_callee (f := 18) rfl ?_); refine goesL_ (some 33) rfl rfl Try.func18 (by kernel_rfl) rfl #[.slice none 0 0, .slice A0 l0.length c0] rfl (by (try simp only [List.map_toArray, List.map_cons, List.map_nil]); first | done | rfl | (simp only [List.length_drop, List.length_take]; rfl)) ?_; (refine (cooperageref1_PutFrame.calls kj4 _ _ ([] : List Int) _ _ l0 t199 _ ?side1 ?side2 ?side3 ?side4 A11.out).mono ?_); (case side1 => exact Kd.C_nil _ _); (case side2 => exact Nat.le_refl _); (case side3 => repeat (first | exact (Kd.C_below HR0.out HB.out) | (with_reducible refine Kd.C_alloc ?_ _) | (with_reducible refine Kd.C_drewN ?_ _) | (with_reducible refine Kd.C_drew ?_))); (case side4 => exact HC0.out); rintro e w24 ⟨v200, rfl, ho0, hb⟩; refine ⟨_, rfl, ?_⟩; have n0_ := Aside0.mk (Kd.R_lower ho0 (below_size (by repeat (first | (with_reducible first | exact HB.out | apply below_alloc | apply pw_below_drewN | apply below_drew1) | exact HB.out)))); have n1_ := Aside0.mk (below_step (by repeat (first | (with_reducible first | exact HB.out | apply below_alloc | apply pw_below_drewN | apply below_drew1) | exact HB.out)) hb); clear HB; have HO201 := n0_; have HB := n1_; clear n0_ n1_; (try clear hb); (try clear hb2); (try clear hk); (try clear hi); (try clear ho0); obtain ⟨Ao25, co25, eo25⟩ := Kd.R_slice HO201.out; subst eo25; have p202 : 0 ≤ ((ji13) : Int) := of_decide_eq_true (by first | (with_reducible assumption) | assumption); have q202 : (ji13) < (t199.length : Int) := of_decide_eq_true (by first | (with_reducible assumption) | assumption); obtain ⟨ad202, e202, hx202_0⟩ := Kd.at_int (Kd.R_reads' HO201.out).2.2 (ji13) p202 q202; cases e202; replace p202 := eq_true p202; replace q202 := eq_true q202; have p19 : 0 ≤ ((ji13) : Int) := of_decide_eq_true (by first | (with_reducible assumption) | assumption); have q19 : ((ji13) : Int) < ((t199.length : Int) : Int) := of_decide_eq_true (by first | (with_reducible assumption) | assumption); obtain ⟨go19, co19, eo19, gb19, gl19, cl19, HG19⟩ := Kd.R_form HO201.out (by omega); (first | cases eo19 | (injection eo19 with ea_ en_ ec_; (first | subst ea_ | (injection ea_ with ea_; subst ea_)); subst ec_; clear en_)); have GB19 := Aside0.mk gb19; have GG19 := Aside0.mk HG19; clear gb19 gl19 HG19; (first | simp only [add_plain] at hx202_0 | skip); obtain ⟨hx19_0, hf19_0⟩ := Kd.R_celln 0 HO201.out ((ji13) : Int) p19 q19; replace p19 := eq_true p19; replace q19 := eq_true q19; obtain ⟨hy26_, hz26_⟩ := Kd.R_celln 0 HO201.out ((ji13) : Int) (of_decide_eq_true (by first | (with_reducible assumption) | assumption)) (of_decide_eq_true (by first | (with_reducible assumption) | assumption)); have HP26 := Kd.R_putg HO201.out ((ji13) : Int) (Go.bits .xor .u8 (rd t199 (ji13)) (ji18))) | ((with_reducible refine gate_store (t := 5) (p := 58) rfl ?_); refine store_event (t := 5) (p := 58) (v := ?vo_w27) (w1 := (w24.setCell ⟨go19, ((ji13) : Int).toNat, none⟩ (.int .u8 (Go.bits .xor .u8 (rd t199 (ji13)) (ji18))))) ?hg ?ho ?hn ?hr ?_; (case ho => rfl); (case hg => rfl); (case hn => rfl); (case hr => first | (go_simp; done) | (go_simp; rfl)); intro w27 hw; have hg : w24.grownBy w27 (some go19) := (by rw [hw]; exact HP26.2); have hp_ : Kd.R (Kd.int .u8) 5 w27 w.heap.size (fun _ => True) (.slice (some ⟨go19, 0, none⟩) t199.length co25) y203 := (by rw [hw, Ny203.out]; exact HP26.1); clear HP26; have n0_ := Aside0.mk (hp_); have n1_ := Aside0.mk ((by rw [hw]; exact below_set (HB.out) GB19.out : Below w.heap.size w w27)); clear HO201; clear HB; have HO201 := n0_; have HB := n1_; clear n0_ n1_; clear hg hw hp_) | ((with_reducible refine gate_callee (f := 19) rfl ?_); refine goesL_ (some 61) rfl rfl Try.func19 (by kernel_rfl) rfl #[.slice (some ⟨go19, 0, none⟩) y203.length co25] rfl (by (try simp only [List.map_toArray, List.map_cons, List.map_nil]); first | done | (rw [show y203.length = t199.length from (Kd.R_reads' HO201.out).1.symm] <;> rfl) | rfl | (simp only [List.length_drop, List.length_take]; rfl)) ?_; (with_reducible refine (frame_Get.calls kj4 _ _ y203 t204 t205 t206 _ ?side1 ?side2 A20.out).mono ?_); (case side1 => repeat (first | exact (Kd.R_reads' HO201.out).2.2 | (with_reducible refine Kd.C_alloc ?_ _) | (with_reducible refine Kd.C_drewN ?_ _) | (with_reducible refine Kd.C_drew ?_))); (case side2 => rw [show y203.length = t199.length from (Kd.R_reads' HO201.out).1.symm]; exact (Kd.R_reads' HO201.out).2.1); rintro e w28 ⟨v207, rfl, ho0, hb⟩; refine ⟨_, rfl, ?_⟩; have n0_ := Aside0.mk (Kd.R_elder' (by (with_reducible repeat (first | apply Kd.R_alloc | apply Kd.R_drewN | apply Kd.R_drew)); exact HO201.out) (Kd.R_base ho0) hb); have n1_ := Aside0.mk (Kd.R_lower (Kd.R_new' ho0 (Kd.R_lt (by (with_reducible repeat (first | apply Kd.R_alloc | apply Kd.R_drewN | apply Kd.R_drew)); exact HO201.out))) (below_size (by repeat (first | (with_reducible first | exact HB.out | apply below_alloc | apply pw_below_drewN | apply below_drew1) | exact HB.out)))); have n2_ := Aside0.mk (below_step (by repeat (first | (with_reducible first | exact HB.out | apply below_alloc | apply pw_below_drewN | apply below_drew1) | exact HB.out)) hb); clear HO201; clear HB; have HO201 := n0_; have HO208 := n1_; have HB := n2_; clear n0_ n1_ n2_; (try clear hb); (try clear hb2); (try clear hk); (try clear hi); (try clear ho0)) | ((with_reducible refine gate_callee (f := 20) rfl ?_); refine goesL_ (some 66) rfl rfl Try.func20 (by kernel_rfl) rfl #[.int .i64 t206] rfl (by (try simp only [List.map_toArray, List.map_cons, List.map_nil]); first | done | rfl | (simp only [List.length_drop, List.length_take]; rfl)) ?_; (with_reducible refine (cooperagelaw5_num.calls t206 t209 _ A21.out).mono ?_); rintro e w' ⟨rfl, ⟨nd, rfl⟩⟩; refine ⟨_, rfl, ?_⟩; obtain ⟨Ao29, co29, eo29⟩ := Kd.R_slice HO208.out; subst eo29))
                    go_ret
                    exact ⟨by first | rfl | (simp [errW_none, errW_some] <;> rfl) | (simp only [← hji13, ← hji16, ← hji18]; first | rfl | (simp [errW_none, errW_some] <;> rfl)) | (simp [*, errW_none, errW_some] <;> rfl) | (simp [errW_none, errW_some]; generalize ByteArray.toList _ = l_; cases l_ <;> rfl), by repeat (first | (with_reducible first | exact HB.out | apply below_alloc | apply pw_below_drewN | apply below_drew1) | exact HB.out)⟩
                  · rw [if_neg c23] at H
                    have c23b0 : ((t204.length : Int) == 0) = false := beq_eq_false_iff_ne.mpr c23
                    have c23b1 : ((t204.length : Int) != 0) = true := bne_iff_ne.mpr c23
                    have c23b2 : ¬ (t204 = []) := fun h_ => c23 (by rw [h_]; rfl)
                    obtain rfl := Option.some.inj H
                    go_wp2_with (first | ((with_reducible refine gate_callee (f := 18) rfl ?_); refine goesL_ (some 33) rfl rfl Try.func18 (by kernel_rfl) rfl #[.slice none 0 0, .slice A0 l0.length c0] rfl (by (try simp only [List.map_toArray, List.map_cons, List.map_nil]); first | done | rfl | (simp only [List.length_drop, List.length_take]; rfl)) ?_; (refine (cooperageref1_PutFrame.calls kj4 _ _ ([] : List Int) _ _ l0 t199 _ ?side1 ?side2 ?side3 ?side4 A11.out).mono ?_); (case side1 => exact Kd.C_nil _ _); (case side2 => exact Nat.le_refl _); (case side3 => repeat (first | exact (Kd.C_below HR0.out HB.out) | (with_reducible refine Kd.C_alloc ?_ _) | (with_reducible refine Kd.C_drewN ?_ _) | (with_reducible refine Kd.C_drew ?_))); (case side4 => exact HC0.out); rintro e w30 ⟨v200, rfl, ho0, hb⟩; refine ⟨_, rfl, ?_⟩; have n0_ := Aside0.mk (Kd.R_lower ho0 (below_size (by repeat (first | (with_reducible first | exact HB.out | apply below_alloc | apply pw_below_drewN | apply below_drew1) | exact HB.out)))); have n1_ := Aside0.mk (below_step (by repeat (first | (with_reducible first | exact HB.out | apply below_alloc | apply pw_below_drewN | apply below_drew1) | exact HB.out)) hb); clear HB; have HO201 := n0_; have HB := n1_; clear n0_ n1_; (try clear hb); (try clear hb2); (try clear hk); (try clear hi); (try clear ho0); obtain ⟨Ao31, co31, eo31⟩ := Kd.R_slice HO201.out; subst eo31; have p202 : 0 ≤ ((ji13) : Int) := of_decide_eq_true (by first | (with_reducible assumption) | assumption); have q202 : (ji13) < (t199.length : Int) := of_decide_eq_true (by first | (with_reducible assumption) | assumption); obtain ⟨ad202, e202, hx202_0⟩ := Kd.at_int (Kd.R_reads' HO201.out).2.2 (ji13) p202 q202; cases e202; replace p202 := eq_true p202; replace q202 := eq_true q202; have p19 : 0 ≤ ((ji13) : Int) := of_decide_eq_true (by first | (with_reducible assumption) | assumption); have q19 : ((ji13) : Int) < ((t199.length : Int) : Int) := of_decide_eq_true (by first | (with_reducible assumption) | assumption); obtain ⟨go19, co19, eo19, gb19, gl19, cl19, HG19⟩ := Kd.R_form HO201.out (by omega); (first | cases eo19 | (injection eo19 with ea_ en_ ec_; (first | subst ea_ | (injection ea_ with ea_; subst ea_)); subst ec_; clear en_)); have GB19 := Aside0.mk gb19; have GG19 := Aside0.mk HG19; clear gb19 gl19 HG19; (first | simp only [add_plain] at hx202_0 | skip); obtain ⟨hx19_0, hf19_0⟩ := Kd.R_celln 0 HO201.out ((ji13) : Int) p19 q19; replace p19 := eq_true p19; replace q19 := eq_true q19; obtain ⟨hy32_, hz32_⟩ := Kd.R_celln 0 HO201.out ((ji13) : Int) (of_decide_eq_true (by first | (with_reducible assumption) | assumption)) (of_decide_eq_true (by first | (with_reducible assumption) | assumption)); have HP32 := Kd.R_putg HO201.out ((ji13) : Int) (Go.bits .xor .u8 (rd t199 (ji13)) (ji18))) | ((with_reducible refine gate_store (t := 5) (p := 58) rfl ?_); refine store_event (t := 5) (p := 58) (v := ?vo_w33) (w1 := (w30.setCell ⟨go19, ((ji13) : Int).toNat, none⟩ (.int .u8 (Go.bits .xor .u8 (rd t199 (ji13)) (ji18))))) ?hg ?ho ?hn ?hr ?_; (case ho => rfl); (case hg => rfl); (case hn => rfl); (case hr => first | (go_simp; done) | (go_simp; rfl)); intro w33 hw; have hg : w30.grownBy w33 (some go19) := (by rw [hw]; exact HP32.2); have hp_ : Kd.R (Kd.int .u8) 5 w33 w.heap.size (fun _ => True) (.slice (some ⟨go19, 0, none⟩) t199.length co31) y203 := (by rw [hw, Ny203.out]; exact HP32.1); clear HP32; have n0_ := Aside0.mk (hp_); have n1_ := Aside0.mk ((by rw [hw]; exact below_set (HB.out) GB19.out : Below w.heap.size w w33)); clear HO201; clear HB; have HO201 := n0_; have HB := n1_; clear n0_ n1_; clear hg hw hp_) | ((with_reducible refine gate_callee (f := 19) rfl ?_); refine goesL_ (some 61) rfl rfl Try.func19 (by kernel_rfl) rfl #[.slice (some ⟨go19, 0, none⟩) y203.length co31] rfl (by (try simp only [List.map_toArray, List.map_cons, List.map_nil]); first | done | (rw [show y203.length = t199.length from (Kd.R_reads' HO201.out).1.symm] <;> rfl) | rfl | (simp only [List.length_drop, List.length_take]; rfl)) ?_; (with_reducible refine (frame_Get.calls kj4 _ _ y203 t204 t205 t206 _ ?side1 ?side2 A20.out).mono ?_); (case side1 => repeat (first | exact (Kd.R_reads' HO201.out).2.2 | (with_reducible refine Kd.C_alloc ?_ _) | (with_reducible refine Kd.C_drewN ?_ _) | (with_reducible refine Kd.C_drew ?_))); (case side2 => rw [show y203.length = t199.length from (Kd.R_reads' HO201.out).1.symm]; exact (Kd.R_reads' HO201.out).2.1); rintro e w34 ⟨v207, rfl, ho0, hb⟩; refine ⟨_, rfl, ?_⟩; have n0_ := Aside0.mk (Kd.R_elder' (by (with_reducible repeat (first | apply Kd.R_alloc | apply Kd.R_drewN | apply Kd.R_drew)); exact HO201.out) (Kd.R_base ho0) hb); have n1_ := Aside0.mk (Kd.R_lower (Kd.R_new' ho0 (Kd.R_lt (by (with_reducible repeat (first | apply Kd.R_alloc | apply Kd.R_drewN | apply Kd.R_drew)); exact HO201.out))) (below_size (by repeat (first | (with_reducible first | exact HB.out | apply below_alloc | apply pw_below_drewN | apply below_drew1) | exact HB.out)))); have n2_ := Aside0.mk (below_step (by repeat (first | (with_reducible first | exact HB.out | apply below_alloc | apply pw_below_drewN | apply below_drew1) | exact HB.out)) hb); clear HO201; clear HB; have HO201 := n0_; have HO208 := n1_; have HB := n2_; clear n0_ n1_ n2_; (try clear hb); (try clear hb2); (try clear hk); (try clear hi); (try clear ho0)) | ((with_reducible refine gate_callee (f := 20) rfl ?_); refine goesL_ (some 66) rfl rfl Try.func20 (by kernel_rfl) rfl #[.int .i64 t206] rfl (by (try simp only [List.map_toArray, List.map_cons, List.map_nil]); first | done | rfl | (simp only [List.length_drop, List.length_take]; rfl)) ?_; (with_reducible refine (cooperagelaw5_num.calls t206 t209 _ A21.out).mono ?_); rintro e w' ⟨rfl, ⟨nd, rfl⟩⟩; refine ⟨_, rfl, ?_⟩; obtain ⟨Ao35, co35, eo35⟩ := Kd.R_slice HO208.out; subst eo35))
                    go_ret
                    exact ⟨by first | rfl | (simp [errW_none, errW_some] <;> rfl) | (simp only [← hji13, ← hji16, ← hji18]; first | rfl | (simp [errW_none, errW_some] <;> rfl)) | (simp [*, errW_none, errW_some] <;> rfl) | (simp [errW_none, errW_some]; generalize ByteArray.toList _ = l_; cases l_ <;> rfl), by repeat (first | (with_reducible first | exact HB.out | apply below_alloc | apply pw_below_drewN | apply below_drew1) | exact HB.out)⟩
                · rw [if_neg c22] at H
                  have c22b0 : (t209 == 5) = false := beq_eq_false_iff_ne.mpr c22
                  have c22b1 : (t209 != 5) = true := bne_iff_ne.mpr c22
                  obtain rfl := Option.some.inj H
                  go_wp2_with (first | ((with_reducible refine gate_callee (f := 18) rfl ?_); refine goesL_ (some 33) rfl rfl Try.func18 (by kernel_rfl) rfl #[.slice none 0 0, .slice A0 l0.length c0] rfl (by (try simp only [List.map_toArray, List.map_cons, List.map_nil]); first | done | rfl | (simp only [List.length_drop, List.length_take]; rfl)) ?_; (refine (cooperageref1_PutFrame.calls kj4 _ _ ([] : List Int) _ _ l0 t199 _ ?side1 ?side2 ?side3 ?side4 A11.out).mono ?_); (case side1 => exact Kd.C_nil _ _); (case side2 => exact Nat.le_refl _); (case side3 => repeat (first | exact (Kd.C_below HR0.out HB.out) | (with_reducible refine Kd.C_alloc ?_ _) | (with_reducible refine Kd.C_drewN ?_ _) | (with_reducible refine Kd.C_drew ?_))); (case side4 => exact HC0.out); rintro e w36 ⟨v200, rfl, ho0, hb⟩; refine ⟨_, rfl, ?_⟩; have n0_ := Aside0.mk (Kd.R_lower ho0 (below_size (by repeat (first | (with_reducible first | exact HB.out | apply below_alloc | apply pw_below_drewN | apply below_drew1) | exact HB.out)))); have n1_ := Aside0.mk (below_step (by repeat (first | (with_reducible first | exact HB.out | apply below_alloc | apply pw_below_drewN | apply below_drew1) | exact HB.out)) hb); clear HB; have HO201 := n0_; have HB := n1_; clear n0_ n1_; (try clear hb); (try clear hb2); (try clear hk); (try clear hi); (try clear ho0); obtain ⟨Ao37, co37, eo37⟩ := Kd.R_slice HO201.out; subst eo37; have p202 : 0 ≤ ((ji13) : Int) := of_decide_eq_true (by first | (with_reducible assumption) | assumption); have q202 : (ji13) < (t199.length : Int) := of_decide_eq_true (by first | (with_reducible assumption) | assumption); obtain ⟨ad202, e202, hx202_0⟩ := Kd.at_int (Kd.R_reads' HO201.out).2.2 (ji13) p202 q202; cases e202; replace p202 := eq_true p202; replace q202 := eq_true q202; have p19 : 0 ≤ ((ji13) : Int) := of_decide_eq_true (by first | (with_reducible assumption) | assumption); have q19 : ((ji13) : Int) < ((t199.length : Int) : Int) := of_decide_eq_true (by first | (with_reducible assumption) | assumption); obtain ⟨go19, co19, eo19, gb19, gl19, cl19, HG19⟩ := Kd.R_form HO201.out (by omega); (first | cases eo19 | (injection eo19 with ea_ en_ ec_; (first | subst ea_ | (injection ea_ with ea_; subst ea_)); subst ec_; clear en_)); have GB19 := Aside0.mk gb19; have GG19 := Aside0.mk HG19; clear gb19 gl19 HG19; (first | simp only [add_plain] at hx202_0 | skip); obtain ⟨hx19_0, hf19_0⟩ := Kd.R_celln 0 HO201.out ((ji13) : Int) p19 q19; replace p19 := eq_true p19; replace q19 := eq_true q19; obtain ⟨hy38_, hz38_⟩ := Kd.R_celln 0 HO201.out ((ji13) : Int) (of_decide_eq_true (by first | (with_reducible assumption) | assumption)) (of_decide_eq_true (by first | (with_reducible assumption) | assumption)); have HP38 := Kd.R_putg HO201.out ((ji13) : Int) (Go.bits .xor .u8 (rd t199 (ji13)) (ji18))) | ((with_reducible refine gate_store (t := 5) (p := 58) rfl ?_); refine store_event (t := 5) (p := 58) (v := ?vo_w39) (w1 := (w36.setCell ⟨go19, ((ji13) : Int).toNat, none⟩ (.int .u8 (Go.bits .xor .u8 (rd t199 (ji13)) (ji18))))) ?hg ?ho ?hn ?hr ?_; (case ho => rfl); (case hg => rfl); (case hn => rfl); (case hr => first | (go_simp; done) | (go_simp; rfl)); intro w39 hw; have hg : w36.grownBy w39 (some go19) := (by rw [hw]; exact HP38.2); have hp_ : Kd.R (Kd.int .u8) 5 w39 w.heap.size (fun _ => True) (.slice (some ⟨go19, 0, none⟩) t199.length co37) y203 := (by rw [hw, Ny203.out]; exact HP38.1); clear HP38; have n0_ := Aside0.mk (hp_); have n1_ := Aside0.mk ((by rw [hw]; exact below_set (HB.out) GB19.out : Below w.heap.size w w39)); clear HO201; clear HB; have HO201 := n0_; have HB := n1_; clear n0_ n1_; clear hg hw hp_) | ((with_reducible refine gate_callee (f := 19) rfl ?_); refine goesL_ (some 61) rfl rfl Try.func19 (by kernel_rfl) rfl #[.slice (some ⟨go19, 0, none⟩) y203.length co37] rfl (by (try simp only [List.map_toArray, List.map_cons, List.map_nil]); first | done | (rw [show y203.length = t199.length from (Kd.R_reads' HO201.out).1.symm] <;> rfl) | rfl | (simp only [List.length_drop, List.length_take]; rfl)) ?_; (with_reducible refine (frame_Get.calls kj4 _ _ y203 t204 t205 t206 _ ?side1 ?side2 A20.out).mono ?_); (case side1 => repeat (first | exact (Kd.R_reads' HO201.out).2.2 | (with_reducible refine Kd.C_alloc ?_ _) | (with_reducible refine Kd.C_drewN ?_ _) | (with_reducible refine Kd.C_drew ?_))); (case side2 => rw [show y203.length = t199.length from (Kd.R_reads' HO201.out).1.symm]; exact (Kd.R_reads' HO201.out).2.1); rintro e w40 ⟨v207, rfl, ho0, hb⟩; refine ⟨_, rfl, ?_⟩; have n0_ := Aside0.mk (Kd.R_elder' (by (with_reducible repeat (first | apply Kd.R_alloc | apply Kd.R_drewN | apply Kd.R_drew)); exact HO201.out) (Kd.R_base ho0) hb); have n1_ := Aside0.mk (Kd.R_lower (Kd.R_new' ho0 (Kd.R_lt (by (with_reducible repeat (first | apply Kd.R_alloc | apply Kd.R_drewN | apply Kd.R_drew)); exact HO201.out))) (below_size (by repeat (first | (with_reducible first | exact HB.out | apply below_alloc | apply pw_below_drewN | apply below_drew1) | exact HB.out)))); have n2_ := Aside0.mk (below_step (by repeat (first | (with_reducible first | exact HB.out | apply below_alloc | apply pw_below_drewN | apply below_drew1) | exact HB.out)) hb); clear HO201; clear HB; have HO201 := n0_; have HO208 := n1_; have HB := n2_; clear n0_ n1_ n2_; (try clear hb); (try clear hb2); (try clear hk); (try clear hi); (try clear ho0)) | ((with_reducible refine gate_callee (f := 20) rfl ?_); refine goesL_ (some 66) rfl rfl Try.func20 (by kernel_rfl) rfl #[.int .i64 t206] rfl (by (try simp only [List.map_toArray, List.map_cons, List.map_nil]); first | done | rfl | (simp only [List.length_drop, List.length_take]; rfl)) ?_; (with_reducible refine (cooperagelaw5_num.calls t206 t209 _ A21.out).mono ?_); rintro e w' ⟨rfl, ⟨nd, rfl⟩⟩; refine ⟨_, rfl, ?_⟩))
                  go_ret
                  exact ⟨by first | rfl | (simp [errW_none, errW_some] <;> rfl) | (simp only [← hji13, ← hji16, ← hji18]; first | rfl | (simp [errW_none, errW_some] <;> rfl)) | (simp [*, errW_none, errW_some] <;> rfl) | (simp [errW_none, errW_some]; generalize ByteArray.toList _ = l_; cases l_ <;> rfl), by repeat (first | (with_reducible first | exact HB.out | apply below_alloc | apply pw_below_drewN | apply below_drew1) | exact HB.out)⟩
              · rw [if_neg c17] at H
                exact absurd H (by simp)
            · rw [if_neg c15] at H
              exact absurd H (by simp)
          · rw [if_neg c14] at H
            exact absurd H (by simp)

/-- THE ONE PURE STATEMENT of cooperagelaw5_FrameTurns: yours. -/
def cooperagelaw5_FrameTurns.Pure : Prop := ∀ (l0 : List Int) (a1 : Int) (a2 : Int), l0.length ≤ maxLen → l0.length * 1 ≤ 140737488351232 → (∀ x ∈ l0, (Lit.int .u8 x).wf = true) → (Lit.int .i64 a1).wf = true → (Lit.int .i64 a2).wf = true → ∃ k, cooperagelaw5_FrameTurns.f k l0 a1 a2 = some true
theorem cooperagelaw5_FrameTurns.walk (P : cooperagelaw5_FrameTurns.Pure) (a0 : Option Addr) (len0 cap0 : Nat) (z0 : List Int) (a1 : Int) (a2 : Int) (w : World) (w0 : (a0 = none ∧ len0 = 0 ∧ cap0 = 0 ∧ z0 = []) ∨ ∃ x, a0 = some x ∧ len0 ≤ cap0 ∧ cap0 ≤ maxLen ∧ z0.length = cap0 ∧ (∀ i, i < z0.length → w.cell? (x.add i) = some (.int .u8 (z0.getD i 0))) ∧ ∀ n ∈ z0, (Lit.int .u8 n).wf = true) (y0 : len0 * 1 ≤ 140737488351232) (w1 : (Lit.int .i64 a1).wf = true) (w2 : (Lit.int .i64 a2).wf = true) :
    Calls Try.prog 5 #[.slice a0 len0 cap0, .int .i64 a1, .int .i64 a2] w fun e w' => e = .returned (.bool true) ∧ Below w.heap.size w w' := by
  obtain ⟨l0, rfl, hr0, hm0, hw0, hc0⟩ := ReadsInt.ofRowC w0
  obtain ⟨k, h⟩ := P l0 a1 a2 hm0 y0 hw0 w1 w2
  refine (cooperagelaw5_FrameTurns.calls k _ _ l0 a1 a2 true w (Kd.C_of_reads (d := (0 : Int)) (h1 := fun _ => rfl) hr0) hc0 h).mono ?_
  rintro e w' ⟨rfl, hd⟩
  exact ⟨rfl, hd⟩

/-! ### cooperageref1_Get: function 38 -/
mutual
def cooperageref1_Get.l0 : Nat → List Int → Int → Int → Option (Int × Int × Int)
  | 0, _, _, _ => none
  | k + 1, x0, x5, x6 => if x6 < (x0.length : Int) then (if 0 ≤ x6 then (if x6 = 9 then (cooperageref1_Get.j1 k x0 x5 x6 (rd x0 x6) (decide ((rd x0 x6) > 1))) else (cooperageref1_Get.j1 k x0 x5 x6 (rd x0 x6) false)) else (none)) else (some (0, 0, 4))
def cooperageref1_Get.j1 : Nat → List Int → Int → Int → Int → Bool → Option (Int × Int × Int)
  | 0, _, _, _, _, _ => none
  | k + 1, x0, x5, x6, x7, x23 => if x23 = true then (some (0, 0, 3)) else (if 0 ≤ (IntKind.u64.wrap (wrap64 (7 * x6))) then (if x7 < 128 then (if x7 = 0 then (if x6 > 0 then (some (0, 0, 2)) else (some (Go.bits .or .u64 x5 (shl .u64 (IntKind.u64.wrap (Go.bits .and .u8 x7 127)) (IntKind.u64.wrap (wrap64 (7 * x6)))), wrap64 (x6 + 1), 0))) else (some (Go.bits .or .u64 x5 (shl .u64 (IntKind.u64.wrap (Go.bits .and .u8 x7 127)) (IntKind.u64.wrap (wrap64 (7 * x6)))), wrap64 (x6 + 1), 0))) else (cooperageref1_Get.l0 k x0 (Go.bits .or .u64 x5 (shl .u64 (IntKind.u64.wrap (Go.bits .and .u8 x7 127)) (IntKind.u64.wrap (wrap64 (7 * x6))))) (wrap64 (x6 + 1)))) else (none))
end
def cooperageref1_Get.f (k : Nat) (l0 : List Int) : Option (Int × Int × Int) := cooperageref1_Get.l0 k l0 0 0
theorem cooperageref1_Get.mono_l : ∀ k, (∀ y0 y1 y2, LeO (cooperageref1_Get.l0 k y0 y1 y2) (cooperageref1_Get.l0 (k + 1) y0 y1 y2)) ∧ (∀ y0 y1 y2 y3 y4, LeO (cooperageref1_Get.j1 k y0 y1 y2 y3 y4) (cooperageref1_Get.j1 (k + 1) y0 y1 y2 y3 y4))
  | 0 => ⟨fun _ _ _ r h => by simp [cooperageref1_Get.l0] at h, fun _ _ _ _ _ r h => by simp [cooperageref1_Get.j1] at h⟩
  | k + 1 => by
    obtain ⟨ih0, ih1⟩ := cooperageref1_Get.mono_l k
    refine ⟨?_, ?_⟩
    · intro y0 y1 y2
      unfold cooperageref1_Get.l0
      repeat' first
      | (with_reducible exact ih0 _ _ _)
      | (with_reducible exact ih1 _ _ _ _ _)
      | (with_reducible exact LeO.refl _)
      | (with_reducible exact LeO.none _)
      | (with_reducible refine LeO.ite ?_ ?_)
      | (with_reducible refine LeO.bind ?_ (fun _ => ?_))
      | exact ih0 _ _ _
      | exact ih1 _ _ _ _ _
      | exact LeO.none _
      | refine LeO.ite ?_ ?_
      | refine LeO.bind ?_ (fun _ => ?_)
    · intro y0 y1 y2 y3 y4
      unfold cooperageref1_Get.j1
      repeat' first
      | (with_reducible exact ih0 _ _ _)
      | (with_reducible exact ih1 _ _ _ _ _)
      | (with_reducible exact LeO.refl _)
      | (with_reducible exact LeO.none _)
      | (with_reducible refine LeO.ite ?_ ?_)
      | (with_reducible refine LeO.bind ?_ (fun _ => ?_))
      | exact ih0 _ _ _
      | exact ih1 _ _ _ _ _
      | exact LeO.none _
      | refine LeO.ite ?_ ?_
      | refine LeO.bind ?_ (fun _ => ?_)
theorem cooperageref1_Get.mono : ∀ a0 k, LeO (cooperageref1_Get.f k a0) (cooperageref1_Get.f (k + 1) a0) := by
  intro a0 k
  obtain ⟨ih0, ih1⟩ := cooperageref1_Get.mono_l k
  unfold cooperageref1_Get.f
  repeat' first
      | (with_reducible exact ih0 _ _ _)
      | (with_reducible exact ih1 _ _ _ _ _)
      | (with_reducible exact LeO.refl _)
      | (with_reducible exact LeO.none _)
      | (with_reducible refine LeO.ite ?_ ?_)
      | (with_reducible refine LeO.bind ?_ (fun _ => ?_))
      | exact ih0 _ _ _
      | exact ih1 _ _ _ _ _
      | exact LeO.none _
      | refine LeO.ite ?_ ?_
      | refine LeO.bind ?_ (fun _ => ?_)
set_option maxHeartbeats 8000000 in
set_option maxRecDepth 100000 in
theorem cooperageref1_Get.calls (k : Nat) (A0 : Option Addr) (c0 : Nat) (l0 : List Int) (r1 : Int) (r2 : Int) (r3 : Int) (w : World) (hr0 : Kd.C (Kd.int .u8) w A0 l0.length l0) (hc0 : l0.length ≤ c0) (h : cooperageref1_Get.f k l0 = some (r1, r2, r3)) :
    Calls Try.prog 38 #[.slice A0 l0.length c0] w fun e w' => e = .returned (.tuple #[.int .u64 r1, .int .i64 r2, .int .i64 r3]) ∧ Drawn0 w w' := by
  have HR0 := Aside0.mk hr0
  have HC0 := Aside0.mk hc0
  clear hr0 hc0
  have H : (cooperageref1_Get.l0 k l0 0 0) = some (r1, r2, r3) := h
  clear h
  have H' := Aside0.mk H
  clear H
  go_enter Try.func38, Try.ntmps38
  go_wp2
  go_loopg [5, 6] k (fun kq v5 v6 w' => ∃ (x5_1 : Int) (x6_1 : Int), v5 = .int .u64 x5_1 ∧ v6 = .int .i64 x6_1 ∧ Aside0 (cooperageref1_Get.l0 kq l0 x5_1 x6_1 = some (r1, r2, r3)) ∧ Aside0 (kq ≤ k) ∧ Drawn0 w w')
  case atStart => exact ⟨(0), (0), (by first | rfl | (simp; done) | (simp [*]; done)), (by first | rfl | (simp; done) | (simp [*]; done)), H', ⟨Nat.le_refl _⟩, by repeat (first | exact Drawn0.refl _ | apply Drawn0.step)⟩
  case round =>
    clear H'
    obtain ⟨x5_1, x6_1, rfl, rfl, HA, HK1, ⟨m1, rfl⟩⟩ := hrel
    cases gk with
    | zero => exact absurd HA.out (by simp [cooperageref1_Get.l0])
    | succ k1 =>
      have H := HA.out
      clear HA
      simp only [cooperageref1_Get.l0] at H
      by_cases c2 : x6_1 < (l0.length : Int)
      · rw [if_pos c2] at H
        have c2b0 : decide (x6_1 < (l0.length : Int)) = true := decide_eq_true c2
        clear c2
        by_cases c3 : 0 ≤ x6_1
        · rw [if_pos c3] at H
          have c3b0 : decide (0 ≤ x6_1) = true := decide_eq_true c3
          clear c3
          have HC4 := Aside0.mk H
          clear H
          have p210 : 0 ≤ (x6_1 : Int) := of_decide_eq_true (by first | (with_reducible assumption) | assumption)
          have q210 : x6_1 < (l0.length : Int) := of_decide_eq_true (by first | (with_reducible assumption) | assumption)
          obtain ⟨ad210, e210, hx210_0⟩ := Kd.at_int HR0.out x6_1 p210 q210
          cases e210
          replace p210 := eq_true p210
          replace q210 := eq_true q210
          go_upto_region 6 with (fail)
          go_cut [23] (fun v23 wc => ∃ (kq : Nat) (x23_3 : Bool), v23 = .bool x23_3 ∧ Aside0 (cooperageref1_Get.j1 kq l0 x5_1 x6_1 (rd l0 x6_1) x23_3 = some (r1, r2, r3)) ∧ Aside0 (kq ≤ k1) ∧ Drawn0 w wc)
          case first =>
            have H := HC4.out
            clear HC4
            by_cases c5 : x6_1 = 9
            · rw [if_pos c5] at H
              have c5b0 : (x6_1 == 9) = true := beq_iff_eq.mpr c5
              have c5b1 : (x6_1 != 9) = false := bne_eq_false_iff_eq.mpr c5
              clear c5
              (first | rw [c5b0] | (simp only [i64_w, i32_w]; rw [c5b0]) | skip)
              have H' := Aside0.mk H
              clear H
              go_wp2
              go_meet
              case rel => exact ⟨_, (decide ((rd l0 x6_1) > 1)), (by first | rfl | (simp; done) | (simp [*]; done)), H', ⟨by have := HK1.out; first | omega | exact Nat.le_refl _⟩, by repeat (first | exact Drawn0.refl _ | apply Drawn0.step)⟩
            · rw [if_neg c5] at H
              have c5b0 : (x6_1 == 9) = false := beq_eq_false_iff_ne.mpr c5
              have c5b1 : (x6_1 != 9) = true := bne_iff_ne.mpr c5
              (first | rw [c5b0] | (simp only [i64_w, i32_w]; rw [c5b0]) | skip)
              have H' := Aside0.mk H
              clear H
              go_wp2
              go_meet
              case rel => exact ⟨_, (false), (by first | rfl | (simp; done) | (simp [*]; done)), H', ⟨by have := HK1.out; first | omega | exact Nat.le_refl _⟩, by repeat (first | exact Drawn0.refl _ | apply Drawn0.step)⟩
          case rest =>
            clear HC4
            try clear c2
            try clear c2b0
            try clear p2
            try clear q2
            try clear hx2
            try clear c3
            try clear c3b0
            try clear c5
            try clear c5b0
            try clear c5b1
            try clear hx210_0
            try clear p210
            try clear q210
            obtain ⟨kq, x23_3, rfl, HA, HJ3, ⟨mc3, rfl⟩⟩ := hcut
            cases kq with
            | zero => exact absurd HA.out (by simp [cooperageref1_Get.j1])
            | succ kj3 =>
              have H := HA.out
              clear HA
              simp only [cooperageref1_Get.j1] at H
              by_cases c6 : x23_3 = true
              · subst c6
                have H1 : (some (0, 0, 3)) = some (r1, r2, r3) := by rw [if_pos rfl] at H; exact H
                clear H
                have H := H1
                clear H1
                simp only [Option.some.injEq, Prod.mk.injEq] at H
                obtain ⟨rfl, rfl, rfl⟩ := H
                go_wp2
                go_ret3
                exact ⟨by first | rfl | (simp; done) | (simp [*]; done), by repeat (first | exact Drawn0.refl _ | apply Drawn0.step)⟩
              · replace c6 := Bool.eq_false_iff.mpr c6
                subst c6
                have H1 : (if 0 ≤ (IntKind.u64.wrap (wrap64 (7 * x6_1))) then (if (rd l0 x6_1) < 128 then (if (rd l0 x6_1) = 0 then (if x6_1 > 0 then (some (0, 0, 2)) else (some (Go.bits .or .u64 x5_1 (shl .u64 (IntKind.u64.wrap (Go.bits .and .u8 (rd l0 x6_1) 127)) (IntKind.u64.wrap (wrap64 (7 * x6_1)))), wrap64 (x6_1 + 1), 0))) else (some (Go.bits .or .u64 x5_1 (shl .u64 (IntKind.u64.wrap (Go.bits .and .u8 (rd l0 x6_1) 127)) (IntKind.u64.wrap (wrap64 (7 * x6_1)))), wrap64 (x6_1 + 1), 0))) else (cooperageref1_Get.l0 kj3 l0 (Go.bits .or .u64 x5_1 (shl .u64 (IntKind.u64.wrap (Go.bits .and .u8 (rd l0 x6_1) 127)) (IntKind.u64.wrap (wrap64 (7 * x6_1))))) (wrap64 (x6_1 + 1)))) else (none)) = some (r1, r2, r3) := by rw [if_neg (show ¬ (false = true) by decide)] at H; exact H
                clear H
                have H := H1
                clear H1
                obtain ⟨ji7, hji7⟩ : ∃ j_ : Int, (IntKind.u64.wrap (wrap64 (7 * x6_1))) = j_ := ⟨_, rfl⟩
                replace H : (if 0 ≤ (ji7) then (if (rd l0 x6_1) < 128 then (if (rd l0 x6_1) = 0 then (if x6_1 > 0 then (some (0, 0, 2)) else (some (Go.bits .or .u64 x5_1 (shl .u64 (IntKind.u64.wrap (Go.bits .and .u8 (rd l0 x6_1) 127)) (ji7)), wrap64 (x6_1 + 1), 0))) else (some (Go.bits .or .u64 x5_1 (shl .u64 (IntKind.u64.wrap (Go.bits .and .u8 (rd l0 x6_1) 127)) (ji7)), wrap64 (x6_1 + 1), 0))) else (cooperageref1_Get.l0 kj3 l0 (Go.bits .or .u64 x5_1 (shl .u64 (IntKind.u64.wrap (Go.bits .and .u8 (rd l0 x6_1) 127)) (ji7))) (wrap64 (x6_1 + 1)))) else (none)) = some (r1, r2, r3) := by first | (rw [hji7] at H; exact H) | (simp only [hji7] at H ⊢; exact H)
                by_cases c8 : 0 ≤ (ji7)
                · rw [if_pos c8] at H
                  have c8b0 := eq_true c8
                  have c8b1 : decide (0 ≤ (ji7)) = true := decide_eq_true c8
                  clear c8
                  obtain ⟨ji9, hji9⟩ : ∃ j_ : Int, (shl .u64 (IntKind.u64.wrap (Go.bits .and .u8 (rd l0 x6_1) 127)) (ji7)) = j_ := ⟨_, rfl⟩
                  replace H : (if (rd l0 x6_1) < 128 then (if (rd l0 x6_1) = 0 then (if x6_1 > 0 then (some (0, 0, 2)) else (some (Go.bits .or .u64 x5_1 (ji9), wrap64 (x6_1 + 1), 0))) else (some (Go.bits .or .u64 x5_1 (ji9), wrap64 (x6_1 + 1), 0))) else (cooperageref1_Get.l0 kj3 l0 (Go.bits .or .u64 x5_1 (ji9)) (wrap64 (x6_1 + 1)))) = some (r1, r2, r3) := by first | (rw [hji9] at H; exact H) | (simp only [hji9] at H ⊢; exact H)
                  have hji9_ : (IntKind.u64.wrap ((IntKind.u64.wrap (Go.bits .and .u8 (rd l0 x6_1) 127)) * 2 ^ min (ji7).toNat 64)) = ji9 := hji9
                  have hji9z : (ji7) ≤ 64 → (IntKind.u64.wrap ((IntKind.u64.wrap (Go.bits .and .u8 (rd l0 x6_1) 127)) * 2 ^ (ji7).toNat)) = ji9 := shl_small hji9
                  by_cases c10 : (rd l0 x6_1) < 128
                  · rw [if_pos c10] at H
                    have c10b0 : decide ((rd l0 x6_1) < 128) = true := decide_eq_true c10
                    clear c10
                    by_cases c11 : (rd l0 x6_1) = 0
                    · rw [if_pos c11] at H
                      have c11b0 : ((rd l0 x6_1) == 0) = true := beq_iff_eq.mpr c11
                      have c11b1 : ((rd l0 x6_1) != 0) = false := bne_eq_false_iff_eq.mpr c11
                      clear c11
                      by_cases c12 : x6_1 > 0
                      · rw [if_pos c12] at H
                        have c12b0 : decide (0 < x6_1) = true := decide_eq_true c12
                        clear c12
                        simp only [Option.some.injEq, Prod.mk.injEq] at H
                        obtain ⟨rfl, rfl, rfl⟩ := H
                        go_wp2
                        go_ret3
                        exact ⟨by first | rfl | (simp; done) | (simp only [← hji7, ← hji9] <;> (first | rfl | simp)) | (simp [*]; done), by repeat (first | exact Drawn0.refl _ | apply Drawn0.step)⟩
                      · rw [if_neg c12] at H
                        have c12b0 : decide (0 < x6_1) = false := decide_eq_false c12
                        clear c12
                        simp only [Option.some.injEq, Prod.mk.injEq] at H
                        obtain ⟨rfl, rfl, rfl⟩ := H
                        go_wp2
                        go_ret3
                        exact ⟨by first | rfl | (simp; done) | (simp only [← hji7, ← hji9] <;> (first | rfl | simp)) | (simp [*]; done), by repeat (first | exact Drawn0.refl _ | apply Drawn0.step)⟩
                    · rw [if_neg c11] at H
                      have c11b0 : ((rd l0 x6_1) == 0) = false := beq_eq_false_iff_ne.mpr c11
                      have c11b1 : ((rd l0 x6_1) != 0) = true := bne_iff_ne.mpr c11
                      simp only [Option.some.injEq, Prod.mk.injEq] at H
                      obtain ⟨rfl, rfl, rfl⟩ := H
                      go_wp2
                      go_ret3
                      exact ⟨by first | rfl | (simp; done) | (simp only [← hji7, ← hji9] <;> (first | rfl | simp)) | (simp [*]; done), by repeat (first | exact Drawn0.refl _ | apply Drawn0.step)⟩
                  · rw [if_neg c10] at H
                    have c10b0 : decide ((rd l0 x6_1) < 128) = false := decide_eq_false c10
                    clear c10
                    have H' := Aside0.mk H
                    clear H
                    go_wp2
                    go_roundg kj3
                    case measure => have := HK1.out; have := HJ3.out; omega
                    case rel => exact ⟨(Go.bits .or .u64 x5_1 (ji9)), (wrap64 (x6_1 + 1)), (by first | rfl | (simp; done) | (simp only [← hji9] <;> (first | rfl | simp)) | (simp [*]; done)), (by first | rfl | (simp; done) | (simp [*]; done)), H', ⟨by have := HK1.out; have := HJ3.out; omega⟩, by repeat (first | exact Drawn0.refl _ | apply Drawn0.step)⟩
                · rw [if_neg c8] at H
                  exact absurd H (by simp)
        · rw [if_neg c3] at H
          exact absurd H (by simp)
      · rw [if_neg c2] at H
        have c2b0 : decide (x6_1 < (l0.length : Int)) = false := decide_eq_false c2
        clear c2
        simp only [Option.some.injEq, Prod.mk.injEq] at H
        obtain ⟨rfl, rfl, rfl⟩ := H
        go_wp2
        go_ret3
        exact ⟨by first | rfl | (simp; done) | (simp [*]; done), by repeat (first | exact Drawn0.refl _ | apply Drawn0.step)⟩

/-! ### cooperageref1_GetFrame: function 21 -/
def cooperageref1_GetFrame.f (k : Nat) (l0 : List Int) : Option (List Int × Int × Int) := (cooperageref1_Get.f k l0).bind fun bt211 => (if bt211.2.2 = 0 then (if bt211.1 > 16777216 then (some (([] : List Int), 0, 3)) else (if (wrap64 ((wrap64 ((l0.length : Int) - bt211.2.1)) - 4)) < (wrap64 (bt211.1)) then (some (([] : List Int), 0, 4)) else (if 0 ≤ bt211.2.1 then (if bt211.2.1 < (l0.length : Int) then (if 0 ≤ (wrap64 (bt211.2.1 + 1)) then (if (wrap64 (bt211.2.1 + 1)) < (l0.length : Int) then (if 0 ≤ (wrap64 (bt211.2.1 + 2)) then (if (wrap64 (bt211.2.1 + 2)) < (l0.length : Int) then (if 0 ≤ (wrap64 (bt211.2.1 + 3)) then (if (wrap64 (bt211.2.1 + 3)) < (l0.length : Int) then (if 0 ≤ (wrap64 (bt211.2.1 + 4)) then (if (wrap64 (bt211.2.1 + 4)) ≤ (wrap64 ((wrap64 (bt211.2.1 + 4)) + (wrap64 (bt211.1)))) then (if (wrap64 ((wrap64 (bt211.2.1 + 4)) + (wrap64 (bt211.1)))) ≤ (l0.length : Int) then ((cooperageref1_Sum.f k ((l0.take ((wrap64 ((wrap64 (bt211.2.1 + 4)) + (wrap64 (bt211.1)))) : Int).toNat).drop ((wrap64 (bt211.2.1 + 4)) : Int).toNat)).bind fun t219 => (if t219 = (Go.bits .or .u32 (Go.bits .or .u32 (Go.bits .or .u32 ((((rd l0 bt211.2.1) % 4294967296) * 16777216) % 4294967296) ((((rd l0 (wrap64 (bt211.2.1 + 1))) % 4294967296) * 65536) % 4294967296)) ((((rd l0 (wrap64 (bt211.2.1 + 2))) % 4294967296) * 256) % 4294967296)) ((rd l0 (wrap64 (bt211.2.1 + 3))) % 4294967296)) then (if ([] : List Int).length + ((l0.take ((wrap64 ((wrap64 (bt211.2.1 + 4)) + (wrap64 (bt211.1)))) : Int).toNat).drop ((wrap64 (bt211.2.1 + 4)) : Int).toNat).length < 140737488355328 then (some ((([] : List Int) ++ ((l0.take ((wrap64 ((wrap64 (bt211.2.1 + 4)) + (wrap64 (bt211.1)))) : Int).toNat).drop ((wrap64 (bt211.2.1 + 4)) : Int).toNat)), wrap64 ((wrap64 (bt211.2.1 + 4)) + (wrap64 (bt211.1))), 0)) else (none)) else (some (([] : List Int), 0, 5)))) else (none)) else (none)) else (none)) else (none)) else (none)) else (none)) else (none)) else (none)) else (none)) else (none)) else (none)))) else (some (([] : List Int), 0, bt211.2.2)))
theorem cooperageref1_GetFrame.mono : ∀ a0 k, LeO (cooperageref1_GetFrame.f k a0) (cooperageref1_GetFrame.f (k + 1) a0) := by
  intro a0 k
  unfold cooperageref1_GetFrame.f
  repeat' first
      | (with_reducible exact cooperageref1_Get.mono _ _)
      | (with_reducible exact cooperageref1_Sum.mono _ _)
      | (with_reducible exact LeO.refl _)
      | (with_reducible exact LeO.none _)
      | (with_reducible refine LeO.ite ?_ ?_)
      | (with_reducible refine LeO.bind ?_ (fun _ => ?_))
      | exact cooperageref1_Get.mono _ _
      | exact cooperageref1_Sum.mono _ _
      | exact LeO.none _
      | refine LeO.ite ?_ ?_
      | refine LeO.bind ?_ (fun _ => ?_)
set_option maxHeartbeats 8000000 in
set_option maxRecDepth 100000 in
theorem cooperageref1_GetFrame.calls (k : Nat) (A0 : Option Addr) (c0 : Nat) (l0 : List Int) (r1 : List Int) (r2 : Int) (r3 : Int) (w : World) (hr0 : Kd.C (Kd.int .u8) w A0 l0.length l0) (hc0 : l0.length ≤ c0) (h : cooperageref1_GetFrame.f k l0 = some (r1, r2, r3)) :
    Calls Try.prog 21 #[.slice A0 l0.length c0] w fun e w' => ∃ v0_ : Value, e = .returned (.tuple #[v0_, .int .i64 r2, .int .i64 r3]) ∧ Kd.R (Kd.int .u8) 5 w' w.heap.size (fun _ => True) v0_ r1 ∧ Below w.heap.size w w' := by
  have HR0 := Aside0.mk hr0
  have HC0 := Aside0.mk hc0
  clear hr0 hc0
  have HB := Aside0.mk (Below.refl w.heap.size w)
  have H : ((cooperageref1_Get.f k l0).bind fun bt211 => (if bt211.2.2 = 0 then (if bt211.1 > 16777216 then (some (([] : List Int), 0, 3)) else (if (wrap64 ((wrap64 ((l0.length : Int) - bt211.2.1)) - 4)) < (wrap64 (bt211.1)) then (some (([] : List Int), 0, 4)) else (if 0 ≤ bt211.2.1 then (if bt211.2.1 < (l0.length : Int) then (if 0 ≤ (wrap64 (bt211.2.1 + 1)) then (if (wrap64 (bt211.2.1 + 1)) < (l0.length : Int) then (if 0 ≤ (wrap64 (bt211.2.1 + 2)) then (if (wrap64 (bt211.2.1 + 2)) < (l0.length : Int) then (if 0 ≤ (wrap64 (bt211.2.1 + 3)) then (if (wrap64 (bt211.2.1 + 3)) < (l0.length : Int) then (if 0 ≤ (wrap64 (bt211.2.1 + 4)) then (if (wrap64 (bt211.2.1 + 4)) ≤ (wrap64 ((wrap64 (bt211.2.1 + 4)) + (wrap64 (bt211.1)))) then (if (wrap64 ((wrap64 (bt211.2.1 + 4)) + (wrap64 (bt211.1)))) ≤ (l0.length : Int) then ((cooperageref1_Sum.f k ((l0.take ((wrap64 ((wrap64 (bt211.2.1 + 4)) + (wrap64 (bt211.1)))) : Int).toNat).drop ((wrap64 (bt211.2.1 + 4)) : Int).toNat)).bind fun t219 => (if t219 = (Go.bits .or .u32 (Go.bits .or .u32 (Go.bits .or .u32 ((((rd l0 bt211.2.1) % 4294967296) * 16777216) % 4294967296) ((((rd l0 (wrap64 (bt211.2.1 + 1))) % 4294967296) * 65536) % 4294967296)) ((((rd l0 (wrap64 (bt211.2.1 + 2))) % 4294967296) * 256) % 4294967296)) ((rd l0 (wrap64 (bt211.2.1 + 3))) % 4294967296)) then (if ([] : List Int).length + ((l0.take ((wrap64 ((wrap64 (bt211.2.1 + 4)) + (wrap64 (bt211.1)))) : Int).toNat).drop ((wrap64 (bt211.2.1 + 4)) : Int).toNat).length < 140737488355328 then (some ((([] : List Int) ++ ((l0.take ((wrap64 ((wrap64 (bt211.2.1 + 4)) + (wrap64 (bt211.1)))) : Int).toNat).drop ((wrap64 (bt211.2.1 + 4)) : Int).toNat)), wrap64 ((wrap64 (bt211.2.1 + 4)) + (wrap64 (bt211.1))), 0)) else (none)) else (some (([] : List Int), 0, 5)))) else (none)) else (none)) else (none)) else (none)) else (none)) else (none)) else (none)) else (none)) else (none)) else (none)) else (none)))) else (some (([] : List Int), 0, bt211.2.2)))) = some (r1, r2, r3) := h
  clear h
  replace H := Option.bind_eq_some_iff.mp H
  obtain ⟨⟨t211, t212, t213⟩, A20, H⟩ := H
  replace H : (if t213 = 0 then (if t211 > 16777216 then (some (([] : List Int), 0, 3)) else (if (wrap64 ((wrap64 ((l0.length : Int) - t212)) - 4)) < (wrap64 (t211)) then (some (([] : List Int), 0, 4)) else (if 0 ≤ t212 then (if t212 < (l0.length : Int) then (if 0 ≤ (wrap64 (t212 + 1)) then (if (wrap64 (t212 + 1)) < (l0.length : Int) then (if 0 ≤ (wrap64 (t212 + 2)) then (if (wrap64 (t212 + 2)) < (l0.length : Int) then (if 0 ≤ (wrap64 (t212 + 3)) then (if (wrap64 (t212 + 3)) < (l0.length : Int) then (if 0 ≤ (wrap64 (t212 + 4)) then (if (wrap64 (t212 + 4)) ≤ (wrap64 ((wrap64 (t212 + 4)) + (wrap64 (t211)))) then (if (wrap64 ((wrap64 (t212 + 4)) + (wrap64 (t211)))) ≤ (l0.length : Int) then ((cooperageref1_Sum.f k ((l0.take ((wrap64 ((wrap64 (t212 + 4)) + (wrap64 (t211)))) : Int).toNat).drop ((wrap64 (t212 + 4)) : Int).toNat)).bind fun t219 => (if t219 = (Go.bits .or .u32 (Go.bits .or .u32 (Go.bits .or .u32 ((((rd l0 t212) % 4294967296) * 16777216) % 4294967296) ((((rd l0 (wrap64 (t212 + 1))) % 4294967296) * 65536) % 4294967296)) ((((rd l0 (wrap64 (t212 + 2))) % 4294967296) * 256) % 4294967296)) ((rd l0 (wrap64 (t212 + 3))) % 4294967296)) then (if ([] : List Int).length + ((l0.take ((wrap64 ((wrap64 (t212 + 4)) + (wrap64 (t211)))) : Int).toNat).drop ((wrap64 (t212 + 4)) : Int).toNat).length < 140737488355328 then (some ((([] : List Int) ++ ((l0.take ((wrap64 ((wrap64 (t212 + 4)) + (wrap64 (t211)))) : Int).toNat).drop ((wrap64 (t212 + 4)) : Int).toNat)), wrap64 ((wrap64 (t212 + 4)) + (wrap64 (t211))), 0)) else (none)) else (some (([] : List Int), 0, 5)))) else (none)) else (none)) else (none)) else (none)) else (none)) else (none)) else (none)) else (none)) else (none)) else (none)) else (none)))) else (some (([] : List Int), 0, t213))) = some (r1, r2, r3) := H
  have A2 := Aside0.mk A20
  clear A20
  by_cases c3 : t213 = 0
  · rw [if_pos c3] at H
    have c3b0 : (t213 == 0) = true := beq_iff_eq.mpr c3
    have c3b1 : (t213 != 0) = false := bne_eq_false_iff_eq.mpr c3
    clear c3
    by_cases c4 : t211 > 16777216
    · rw [if_pos c4] at H
      have c4b0 : decide (16777216 < t211) = true := decide_eq_true c4
      clear c4
      simp only [Option.some.injEq, Prod.mk.injEq] at H
      obtain ⟨rfl, rfl, rfl⟩ := H
      go_enter Try.func21, Try.ntmps21
      go_wp2_with (first | (go_at_call 38; (with_reducible refine (cooperageref1_Get.calls k _ _ l0 t211 t212 t213 _ ?side1 ?side2 A2.out).mono ?_); (case side1 => repeat (first | exact HR0.out | (with_reducible refine Kd.C_alloc ?_ _) | (with_reducible refine Kd.C_drewN ?_ _) | (with_reducible refine Kd.C_drew ?_))); (case side2 => exact HC0.out); rintro e w' ⟨rfl, ⟨nd, rfl⟩⟩; (try first | exact ⟨rfl, _, World.drewN_drewN _ _ _⟩ | exact ⟨rfl, _, Eq.trans (World.drewN_drewN _ _ _) (congrArg (World.drewN _) (Nat.add_assoc _ _ _))⟩)))
      repeat (go_quiet (first | (go_at_call 38; (with_reducible refine (cooperageref1_Get.calls k _ _ l0 t211 t212 t213 _ ?side1 ?side2 A2.out).mono ?_); (case side1 => repeat (first | exact HR0.out | (with_reducible refine Kd.C_alloc ?_ _) | (with_reducible refine Kd.C_drewN ?_ _) | (with_reducible refine Kd.C_drew ?_))); (case side2 => exact HC0.out); rintro e w' ⟨rfl, ⟨nd, rfl⟩⟩; (try first | exact ⟨rfl, _, World.drewN_drewN _ _ _⟩ | exact ⟨rfl, _, Eq.trans (World.drewN_drewN _ _ _) (congrArg (World.drewN _) (Nat.add_assoc _ _ _))⟩))); try go_wp2_with (first | (go_at_call 38; (with_reducible refine (cooperageref1_Get.calls k _ _ l0 t211 t212 t213 _ ?side1 ?side2 A2.out).mono ?_); (case side1 => repeat (first | exact HR0.out | (with_reducible refine Kd.C_alloc ?_ _) | (with_reducible refine Kd.C_drewN ?_ _) | (with_reducible refine Kd.C_drew ?_))); (case side2 => exact HC0.out); rintro e w' ⟨rfl, ⟨nd, rfl⟩⟩; (try first | exact ⟨rfl, _, World.drewN_drewN _ _ _⟩ | exact ⟨rfl, _, Eq.trans (World.drewN_drewN _ _ _) (congrArg (World.drewN _) (Nat.add_assoc _ _ _))⟩))))
      go_ret3
      exact ⟨_, by first | rfl | (simp [errW_none, errW_some] <;> rfl) | (simp [*, errW_none, errW_some] <;> rfl) | (simp [errW_none, errW_some]; generalize ByteArray.toList _ = l_; cases l_ <;> rfl), by first | exact Kd.R_nil _ _ _ _ _ | exact Kd.N_nil _ _ _ _ _ | exact Kd.V_nil _ _ _ _ _ | exact Kd.Q_nil _ _ _ _ _ | exact Kd.S_nil _ _ _ _ _, by repeat (first | (with_reducible first | exact HB.out | apply below_alloc | apply pw_below_drewN | apply below_drew1) | exact HB.out)⟩
    · rw [if_neg c4] at H
      have c4b0 : decide (16777216 < t211) = false := decide_eq_false c4
      clear c4
      by_cases c5 : (wrap64 ((wrap64 ((l0.length : Int) - t212)) - 4)) < (wrap64 (t211))
      · rw [if_pos c5] at H
        have c5b0 : decide ((wrap64 ((wrap64 ((l0.length : Int) - t212)) - 4)) < (wrap64 (t211))) = true := decide_eq_true c5
        clear c5
        simp only [Option.some.injEq, Prod.mk.injEq] at H
        obtain ⟨rfl, rfl, rfl⟩ := H
        go_enter Try.func21, Try.ntmps21
        go_wp2_with (first | (go_at_call 38; (with_reducible refine (cooperageref1_Get.calls k _ _ l0 t211 t212 t213 _ ?side1 ?side2 A2.out).mono ?_); (case side1 => repeat (first | exact HR0.out | (with_reducible refine Kd.C_alloc ?_ _) | (with_reducible refine Kd.C_drewN ?_ _) | (with_reducible refine Kd.C_drew ?_))); (case side2 => exact HC0.out); rintro e w' ⟨rfl, ⟨nd, rfl⟩⟩; (try first | exact ⟨rfl, _, World.drewN_drewN _ _ _⟩ | exact ⟨rfl, _, Eq.trans (World.drewN_drewN _ _ _) (congrArg (World.drewN _) (Nat.add_assoc _ _ _))⟩)))
        repeat (go_quiet (first | (go_at_call 38; (with_reducible refine (cooperageref1_Get.calls k _ _ l0 t211 t212 t213 _ ?side1 ?side2 A2.out).mono ?_); (case side1 => repeat (first | exact HR0.out | (with_reducible refine Kd.C_alloc ?_ _) | (with_reducible refine Kd.C_drewN ?_ _) | (with_reducible refine Kd.C_drew ?_))); (case side2 => exact HC0.out); rintro e w' ⟨rfl, ⟨nd, rfl⟩⟩; (try first | exact ⟨rfl, _, World.drewN_drewN _ _ _⟩ | exact ⟨rfl, _, Eq.trans (World.drewN_drewN _ _ _) (congrArg (World.drewN _) (Nat.add_assoc _ _ _))⟩))); try go_wp2_with (first | (go_at_call 38; (with_reducible refine (cooperageref1_Get.calls k _ _ l0 t211 t212 t213 _ ?side1 ?side2 A2.out).mono ?_); (case side1 => repeat (first | exact HR0.out | (with_reducible refine Kd.C_alloc ?_ _) | (with_reducible refine Kd.C_drewN ?_ _) | (with_reducible refine Kd.C_drew ?_))); (case side2 => exact HC0.out); rintro e w' ⟨rfl, ⟨nd, rfl⟩⟩; (try first | exact ⟨rfl, _, World.drewN_drewN _ _ _⟩ | exact ⟨rfl, _, Eq.trans (World.drewN_drewN _ _ _) (congrArg (World.drewN _) (Nat.add_assoc _ _ _))⟩))))
        go_ret3
        exact ⟨_, by first | rfl | (simp [errW_none, errW_some] <;> rfl) | (simp [*, errW_none, errW_some] <;> rfl) | (simp [errW_none, errW_some]; generalize ByteArray.toList _ = l_; cases l_ <;> rfl), by first | exact Kd.R_nil _ _ _ _ _ | exact Kd.N_nil _ _ _ _ _ | exact Kd.V_nil _ _ _ _ _ | exact Kd.Q_nil _ _ _ _ _ | exact Kd.S_nil _ _ _ _ _, by repeat (first | (with_reducible first | exact HB.out | apply below_alloc | apply pw_below_drewN | apply below_drew1) | exact HB.out)⟩
      · rw [if_neg c5] at H
        have c5b0 : decide ((wrap64 ((wrap64 ((l0.length : Int) - t212)) - 4)) < (wrap64 (t211))) = false := decide_eq_false c5
        clear c5
        by_cases c6 : 0 ≤ t212
        · rw [if_pos c6] at H
          have c6b0 : decide (0 ≤ t212) = true := decide_eq_true c6
          clear c6
          by_cases c7 : t212 < (l0.length : Int)
          · rw [if_pos c7] at H
            have c7b0 : decide (t212 < (l0.length : Int)) = true := decide_eq_true c7
            clear c7
            obtain ⟨ji8, hji8⟩ : ∃ j_ : Int, (wrap64 (t212 + 1)) = j_ := ⟨_, rfl⟩
            replace H : (if 0 ≤ (ji8) then (if (ji8) < (l0.length : Int) then (if 0 ≤ (wrap64 (t212 + 2)) then (if (wrap64 (t212 + 2)) < (l0.length : Int) then (if 0 ≤ (wrap64 (t212 + 3)) then (if (wrap64 (t212 + 3)) < (l0.length : Int) then (if 0 ≤ (wrap64 (t212 + 4)) then (if (wrap64 (t212 + 4)) ≤ (wrap64 ((wrap64 (t212 + 4)) + (wrap64 (t211)))) then (if (wrap64 ((wrap64 (t212 + 4)) + (wrap64 (t211)))) ≤ (l0.length : Int) then ((cooperageref1_Sum.f k ((l0.take ((wrap64 ((wrap64 (t212 + 4)) + (wrap64 (t211)))) : Int).toNat).drop ((wrap64 (t212 + 4)) : Int).toNat)).bind fun t219 => (if t219 = (Go.bits .or .u32 (Go.bits .or .u32 (Go.bits .or .u32 ((((rd l0 t212) % 4294967296) * 16777216) % 4294967296) ((((rd l0 (ji8)) % 4294967296) * 65536) % 4294967296)) ((((rd l0 (wrap64 (t212 + 2))) % 4294967296) * 256) % 4294967296)) ((rd l0 (wrap64 (t212 + 3))) % 4294967296)) then (if ([] : List Int).length + ((l0.take ((wrap64 ((wrap64 (t212 + 4)) + (wrap64 (t211)))) : Int).toNat).drop ((wrap64 (t212 + 4)) : Int).toNat).length < 140737488355328 then (some ((([] : List Int) ++ ((l0.take ((wrap64 ((wrap64 (t212 + 4)) + (wrap64 (t211)))) : Int).toNat).drop ((wrap64 (t212 + 4)) : Int).toNat)), wrap64 ((wrap64 (t212 + 4)) + (wrap64 (t211))), 0)) else (none)) else (some (([] : List Int), 0, 5)))) else (none)) else (none)) else (none)) else (none)) else (none)) else (none)) else (none)) else (none)) else (none)) = some (r1, r2, r3) := by first | (rw [hji8] at H; exact H) | (simp only [hji8] at H ⊢; exact H)
            (try rw [hji8] at A2)
            have hji8w : (IntKind.i64.wrap (t212 + 1)) = ji8 := (i64_w _).trans hji8
            by_cases c9 : 0 ≤ (ji8)
            · rw [if_pos c9] at H
              have c9b0 : decide (0 ≤ (ji8)) = true := decide_eq_true c9
              clear c9
              by_cases c10 : (ji8) < (l0.length : Int)
              · rw [if_pos c10] at H
                have c10b0 : decide ((ji8) < (l0.length : Int)) = true := decide_eq_true c10
                clear c10
                obtain ⟨ji11, hji11⟩ : ∃ j_ : Int, (wrap64 (t212 + 2)) = j_ := ⟨_, rfl⟩
                replace H : (if 0 ≤ (ji11) then (if (ji11) < (l0.length : Int) then (if 0 ≤ (wrap64 (t212 + 3)) then (if (wrap64 (t212 + 3)) < (l0.length : Int) then (if 0 ≤ (wrap64 (t212 + 4)) then (if (wrap64 (t212 + 4)) ≤ (wrap64 ((wrap64 (t212 + 4)) + (wrap64 (t211)))) then (if (wrap64 ((wrap64 (t212 + 4)) + (wrap64 (t211)))) ≤ (l0.length : Int) then ((cooperageref1_Sum.f k ((l0.take ((wrap64 ((wrap64 (t212 + 4)) + (wrap64 (t211)))) : Int).toNat).drop ((wrap64 (t212 + 4)) : Int).toNat)).bind fun t219 => (if t219 = (Go.bits .or .u32 (Go.bits .or .u32 (Go.bits .or .u32 ((((rd l0 t212) % 4294967296) * 16777216) % 4294967296) ((((rd l0 (ji8)) % 4294967296) * 65536) % 4294967296)) ((((rd l0 (ji11)) % 4294967296) * 256) % 4294967296)) ((rd l0 (wrap64 (t212 + 3))) % 4294967296)) then (if ([] : List Int).length + ((l0.take ((wrap64 ((wrap64 (t212 + 4)) + (wrap64 (t211)))) : Int).toNat).drop ((wrap64 (t212 + 4)) : Int).toNat).length < 140737488355328 then (some ((([] : List Int) ++ ((l0.take ((wrap64 ((wrap64 (t212 + 4)) + (wrap64 (t211)))) : Int).toNat).drop ((wrap64 (t212 + 4)) : Int).toNat)), wrap64 ((wrap64 (t212 + 4)) + (wrap64 (t211))), 0)) else (none)) else (some (([] : List Int), 0, 5)))) else (none)) else (none)) else (none)) else (none)) else (none)) else (none)) else (none)) = some (r1, r2, r3) := by first | (rw [hji11] at H; exact H) | (simp only [hji11] at H ⊢; exact H)
                (try rw [hji11] at A2)
                have hji11w : (IntKind.i64.wrap (t212 + 2)) = ji11 := (i64_w _).trans hji11
                by_cases c12 : 0 ≤ (ji11)
                · rw [if_pos c12] at H
                  have c12b0 : decide (0 ≤ (ji11)) = true := decide_eq_true c12
                  clear c12
                  by_cases c13 : (ji11) < (l0.length : Int)
                  · rw [if_pos c13] at H
                    have c13b0 : decide ((ji11) < (l0.length : Int)) = true := decide_eq_true c13
                    clear c13
                    obtain ⟨ji14, hji14⟩ : ∃ j_ : Int, (wrap64 (t212 + 3)) = j_ := ⟨_, rfl⟩
                    replace H : (if 0 ≤ (ji14) then (if (ji14) < (l0.length : Int) then (if 0 ≤ (wrap64 (t212 + 4)) then (if (wrap64 (t212 + 4)) ≤ (wrap64 ((wrap64 (t212 + 4)) + (wrap64 (t211)))) then (if (wrap64 ((wrap64 (t212 + 4)) + (wrap64 (t211)))) ≤ (l0.length : Int) then ((cooperageref1_Sum.f k ((l0.take ((wrap64 ((wrap64 (t212 + 4)) + (wrap64 (t211)))) : Int).toNat).drop ((wrap64 (t212 + 4)) : Int).toNat)).bind fun t219 => (if t219 = (Go.bits .or .u32 (Go.bits .or .u32 (Go.bits .or .u32 ((((rd l0 t212) % 4294967296) * 16777216) % 4294967296) ((((rd l0 (ji8)) % 4294967296) * 65536) % 4294967296)) ((((rd l0 (ji11)) % 4294967296) * 256) % 4294967296)) ((rd l0 (ji14)) % 4294967296)) then (if ([] : List Int).length + ((l0.take ((wrap64 ((wrap64 (t212 + 4)) + (wrap64 (t211)))) : Int).toNat).drop ((wrap64 (t212 + 4)) : Int).toNat).length < 140737488355328 then (some ((([] : List Int) ++ ((l0.take ((wrap64 ((wrap64 (t212 + 4)) + (wrap64 (t211)))) : Int).toNat).drop ((wrap64 (t212 + 4)) : Int).toNat)), wrap64 ((wrap64 (t212 + 4)) + (wrap64 (t211))), 0)) else (none)) else (some (([] : List Int), 0, 5)))) else (none)) else (none)) else (none)) else (none)) else (none)) = some (r1, r2, r3) := by first | (rw [hji14] at H; exact H) | (simp only [hji14] at H ⊢; exact H)
                    (try rw [hji14] at A2)
                    have hji14w : (IntKind.i64.wrap (t212 + 3)) = ji14 := (i64_w _).trans hji14
                    by_cases c15 : 0 ≤ (ji14)
                    · rw [if_pos c15] at H
                      have c15b0 : decide (0 ≤ (ji14)) = true := decide_eq_true c15
                      clear c15
                      by_cases c16 : (ji14) < (l0.length : Int)
                      · rw [if_pos c16] at H
                        have c16b0 : decide ((ji14) < (l0.length : Int)) = true := decide_eq_true c16
                        clear c16
                        obtain ⟨ji17, hji17⟩ : ∃ j_ : Int, (wrap64 (t212 + 4)) = j_ := ⟨_, rfl⟩
                        replace H : (if 0 ≤ (ji17) then (if (ji17) ≤ (wrap64 ((ji17) + (wrap64 (t211)))) then (if (wrap64 ((ji17) + (wrap64 (t211)))) ≤ (l0.length : Int) then ((cooperageref1_Sum.f k ((l0.take ((wrap64 ((ji17) + (wrap64 (t211)))) : Int).toNat).drop ((ji17) : Int).toNat)).bind fun t219 => (if t219 = (Go.bits .or .u32 (Go.bits .or .u32 (Go.bits .or .u32 ((((rd l0 t212) % 4294967296) * 16777216) % 4294967296) ((((rd l0 (ji8)) % 4294967296) * 65536) % 4294967296)) ((((rd l0 (ji11)) % 4294967296) * 256) % 4294967296)) ((rd l0 (ji14)) % 4294967296)) then (if ([] : List Int).length + ((l0.take ((wrap64 ((ji17) + (wrap64 (t211)))) : Int).toNat).drop ((ji17) : Int).toNat).length < 140737488355328 then (some ((([] : List Int) ++ ((l0.take ((wrap64 ((ji17) + (wrap64 (t211)))) : Int).toNat).drop ((ji17) : Int).toNat)), wrap64 ((ji17) + (wrap64 (t211))), 0)) else (none)) else (some (([] : List Int), 0, 5)))) else (none)) else (none)) else (none)) = some (r1, r2, r3) := by first | (rw [hji17] at H; exact H) | (simp only [hji17] at H ⊢; exact H)
                        (try rw [hji17] at A2)
                        have hji17w : (IntKind.i64.wrap (t212 + 4)) = ji17 := (i64_w _).trans hji17
                        by_cases c18 : 0 ≤ (ji17)
                        · rw [if_pos c18] at H
                          have c18b0 := eq_true c18
                          have c18b1 : decide (0 ≤ (ji17)) = true := decide_eq_true c18
                          clear c18
                          by_cases c19 : (ji17) ≤ (wrap64 ((ji17) + (wrap64 (t211))))
                          · rw [if_pos c19] at H
                            have c19b0 := eq_true c19
                            have c19b1 : decide ((ji17) ≤ (wrap64 ((ji17) + (wrap64 (t211))))) = true := decide_eq_true c19
                            by_cases c20 : (wrap64 ((ji17) + (wrap64 (t211)))) ≤ (l0.length : Int)
                            · rw [if_pos c20] at H
                              have c20b0 := eq_true c20
                              have c20b1 : decide ((wrap64 ((ji17) + (wrap64 (t211)))) ≤ (l0.length : Int)) = true := decide_eq_true c20
                              replace H := Option.bind_eq_some_iff.mp H
                              obtain ⟨t219, A210, H⟩ := H
                              replace H : (if t219 = (Go.bits .or .u32 (Go.bits .or .u32 (Go.bits .or .u32 ((((rd l0 t212) % 4294967296) * 16777216) % 4294967296) ((((rd l0 (ji8)) % 4294967296) * 65536) % 4294967296)) ((((rd l0 (ji11)) % 4294967296) * 256) % 4294967296)) ((rd l0 (ji14)) % 4294967296)) then (if ([] : List Int).length + ((l0.take ((wrap64 ((ji17) + (wrap64 (t211)))) : Int).toNat).drop ((ji17) : Int).toNat).length < 140737488355328 then (some ((([] : List Int) ++ ((l0.take ((wrap64 ((ji17) + (wrap64 (t211)))) : Int).toNat).drop ((ji17) : Int).toNat)), wrap64 ((ji17) + (wrap64 (t211))), 0)) else (none)) else (some (([] : List Int), 0, 5))) = some (r1, r2, r3) := H
                              have A21 := Aside0.mk A210
                              clear A210
                              by_cases c22 : t219 = (Go.bits .or .u32 (Go.bits .or .u32 (Go.bits .or .u32 ((((rd l0 t212) % 4294967296) * 16777216) % 4294967296) ((((rd l0 (ji8)) % 4294967296) * 65536) % 4294967296)) ((((rd l0 (ji11)) % 4294967296) * 256) % 4294967296)) ((rd l0 (ji14)) % 4294967296))
                              · rw [if_pos c22] at H
                                have c22b0 : (t219 == (Go.bits .or .u32 (Go.bits .or .u32 (Go.bits .or .u32 ((((rd l0 t212) % 4294967296) * 16777216) % 4294967296) ((((rd l0 (ji8)) % 4294967296) * 65536) % 4294967296)) ((((rd l0 (ji11)) % 4294967296) * 256) % 4294967296)) ((rd l0 (ji14)) % 4294967296))) = true := beq_iff_eq.mpr c22
                                have c22b1 : (t219 != (Go.bits .or .u32 (Go.bits .or .u32 (Go.bits .or .u32 ((((rd l0 t212) % 4294967296) * 16777216) % 4294967296) ((((rd l0 (ji8)) % 4294967296) * 65536) % 4294967296)) ((((rd l0 (ji11)) % 4294967296) * 256) % 4294967296)) ((rd l0 (ji14)) % 4294967296))) = false := bne_eq_false_iff_eq.mpr c22
                                clear c22
                                by_cases c23 : ([] : List Int).length + ((l0.take ((wrap64 ((ji17) + (wrap64 (t211)))) : Int).toNat).drop ((ji17) : Int).toNat).length < 140737488355328
                                · rw [if_pos c23] at H
                                  have LMc23 := Aside0.mk c23
                                  clear c23
                                  obtain ⟨y220, hy220⟩ : ∃ y_ : List Int, y_ = (([] : List Int) ++ ((l0.take ((wrap64 ((ji17) + (wrap64 (t211)))) : Int).toNat).drop ((ji17) : Int).toNat)) := ⟨_, rfl⟩
                                  replace H : (some (y220, wrap64 ((ji17) + (wrap64 (t211))), 0)) = some (r1, r2, r3) := by first | (rw [hy220]; with_reducible exact H) | (have H2_ := (Option.bind_some _ _).symm.trans H; rw [hy220]; with_reducible exact H2_) | (have H2_ := (Option.bind_some _ _).symm.trans H; with_reducible exact H2_) | with_reducible exact H | (rw [hy220]; exact H) | exact H
                                  have Ny220 := Aside0.mk hy220
                                  clear hy220
                                  simp only [Option.some.injEq, Prod.mk.injEq] at H
                                  obtain ⟨rfl, rfl, rfl⟩ := H
                                  go_enter Try.func21, Try.ntmps21
                                  go_wp2_with (first | (go_at_call 38; (with_reducible refine (cooperageref1_Get.calls k _ _ l0 t211 t212 t213 _ ?side1 ?side2 A2.out).mono ?_); (case side1 => repeat (first | exact HR0.out | (with_reducible refine Kd.C_alloc ?_ _) | (with_reducible refine Kd.C_drewN ?_ _) | (with_reducible refine Kd.C_drew ?_))); (case side2 => exact HC0.out); rintro e w' ⟨rfl, ⟨nd, rfl⟩⟩; (try first | exact ⟨rfl, _, World.drewN_drewN _ _ _⟩ | exact ⟨rfl, _, Eq.trans (World.drewN_drewN _ _ _) (congrArg (World.drewN _) (Nat.add_assoc _ _ _))⟩); have p214 : 0 ≤ (t212 : Int) := of_decide_eq_true (by first | (with_reducible assumption) | assumption); have q214 : t212 < (l0.length : Int) := of_decide_eq_true (by first | (with_reducible assumption) | assumption); obtain ⟨ad214, e214, hx214_0⟩ := Kd.at_int HR0.out t212 p214 q214; cases e214; replace p214 := eq_true p214; replace q214 := eq_true q214; have p215 : 0 ≤ ((ji8) : Int) := of_decide_eq_true (by first | (with_reducible assumption) | assumption); have q215 : (ji8) < (l0.length : Int) := of_decide_eq_true (by first | (with_reducible assumption) | assumption); obtain ⟨ad215, e215, hx215_0⟩ := Kd.at_int HR0.out (ji8) p215 q215; obtain rfl : ad214 = ad215 := (by injection e215); replace p215 := eq_true p215; replace q215 := eq_true q215; have p216 : 0 ≤ ((ji11) : Int) := of_decide_eq_true (by first | (with_reducible assumption) | assumption); have q216 : (ji11) < (l0.length : Int) := of_decide_eq_true (by first | (with_reducible assumption) | assumption); obtain ⟨ad216, e216, hx216_0⟩ := Kd.at_int HR0.out (ji11) p216 q216; obtain rfl : ad214 = ad216 := (by injection e216); replace p216 := eq_true p216; replace q216 := eq_true q216; have p217 : 0 ≤ ((ji14) : Int) := of_decide_eq_true (by first | (with_reducible assumption) | assumption); have q217 : (ji14) < (l0.length : Int) := of_decide_eq_true (by first | (with_reducible assumption) | assumption); obtain ⟨ad217, e217, hx217_0⟩ := Kd.at_int HR0.out (ji14) p217 q217; obtain rfl : ad214 = ad217 := (by injection e217); replace p217 := eq_true p217; replace q217 := eq_true q217; obtain ⟨i024, hi024, _, hsz24, _⟩ := info_parts info5; obtain ⟨A24, hcut24, hA24, hC24⟩ := print_mid_of (P := Try.prog) (Value.int .u8) 0 30 5 .i64 .i64 Try.underlying30 hi024 hsz24 (some ad214) c0 l0 (ji17) (wrap64 ((ji17) + (wrap64 (t211)))) (of_decide_eq_true (by first | (with_reducible assumption) | assumption)) (by first | omega | exact of_decide_eq_true (by first | (with_reducible assumption) | assumption)) (of_decide_eq_true (by first | (with_reducible assumption) | assumption)) HC0.out; have HR218 := Aside0.mk (Kd.C_of_reads (h1 := fun _ => rfl) (hA24 _ (Kd.reads_of_C HR0.out))); have HC218 := Aside0.mk hC24; clear hA24 hC24 hi024 hsz24) | (go_at_call 35; refine calls_of_args (args' := #[.slice A24 ((l0.take ((wrap64 ((ji17) + (wrap64 (t211)))) : Int).toNat).drop ((ji17) : Int).toNat).length (c0 - (ji17).toNat)]) (by first | (rw [show ((l0.take ((wrap64 ((ji17) + (wrap64 (t211)))) : Int).toNat).drop ((ji17) : Int).toNat).length = ((wrap64 ((ji17) + (wrap64 (t211)))).toNat - (ji17).toNat) from (by rw [List.length_drop, List.length_take]; have h_ : ((wrap64 ((ji17) + (wrap64 (t211)))) : Int) ≤ (l0.length : Int) := of_decide_eq_true (by first | (with_reducible assumption) | assumption); omega)] <;> rfl) | (simp only [hji17]; rfl) | rfl) ?_; (with_reducible refine (cooperageref1_Sum.calls k _ _ ((l0.take ((wrap64 ((ji17) + (wrap64 (t211)))) : Int).toNat).drop ((ji17) : Int).toNat) t219 _ ?side1 ?side2 A21.out).mono ?_); (case side1 => repeat (first | exact HR218.out | (with_reducible refine Kd.C_alloc ?_ _) | (with_reducible refine Kd.C_drewN ?_ _) | (with_reducible refine Kd.C_drew ?_))); (case side2 => exact HC218.out); rintro e w' ⟨rfl, ⟨nd, rfl⟩⟩; (try first | exact ⟨rfl, _, World.drewN_drewN _ _ _⟩ | exact ⟨rfl, _, Eq.trans (World.drewN_drewN _ _ _) (congrArg (World.drewN _) (Nat.add_assoc _ _ _))⟩)) | ((with_reducible refine gate_builtin (b := .append) (xs := #[(.const (.slice none 0 0)), .tmp 71]) rfl ?_); at_builtin; refine Kd.R_append_rows (Kd.int .u8) (w0 := w) w.heap.size rfl (.const (.slice none 0 0)) (.tmp 71) 30 5 (.int .u8 0) 1 rfl Try.underlying30 info5 rfl (by decide) (by omega) (.slice none 0 0) ([] : List Int) ((l0.take ((wrap64 ((ji17) + (wrap64 (t211)))) : Int).toNat).drop ((ji17) : Int).toNat) _ _ _ (fun _ => True) (fun _ => False) rfl rfl ?aO ?aR (fun _ _ h => h) (fun _ h => h.elim) ?aF ?aB ?aS ?aL ?_; (case aR => first | (rw [← show ((l0.take ((wrap64 ((ji17) + (wrap64 (t211)))) : Int).toNat).drop ((ji17) : Int).toNat).length = ((wrap64 ((ji17) + (wrap64 (t211)))).toNat - (ji17).toNat) from (by rw [List.length_drop, List.length_take]; have h_ : ((wrap64 ((ji17) + (wrap64 (t211)))) : Int) ≤ (l0.length : Int) := of_decide_eq_true (by first | (with_reducible assumption) | assumption); omega)]; repeat (first | exact HR218.out | (with_reducible refine Kd.C_alloc ?_ _) | (with_reducible refine Kd.C_drewN ?_ _) | (with_reducible refine Kd.C_drew ?_))) | (repeat (first | exact HR218.out | (with_reducible refine Kd.C_alloc ?_ _) | (with_reducible refine Kd.C_drewN ?_ _) | (with_reducible refine Kd.C_drew ?_)))); (case aB => exact (by repeat (first | (with_reducible first | exact HB.out | apply below_alloc | apply pw_below_drewN | apply below_drew1) | exact HB.out))); (case aF => exact (fun _ _ => trivial)); (case aO => exact ((Kd.R_nil _ _ _ _ (fun _ => True)))); (case aS => exact (below_size (by repeat (first | (with_reducible first | exact HB.out | apply below_alloc | apply pw_below_drewN | apply below_drew1) | exact HB.out)))); (case aL => have := LMc23.out; have hlx_ := (show ((l0.take ((wrap64 ((ji17) + (wrap64 (t211)))) : Int).toNat).drop ((ji17) : Int).toNat).length = ((wrap64 ((ji17) + (wrap64 (t211)))).toNat - (ji17).toNat) from (by rw [List.length_drop, List.length_take]; have h_ : ((wrap64 ((ji17) + (wrap64 (t211)))) : Int) ≤ (l0.length : Int) := of_decide_eq_true (by first | (with_reducible assumption) | assumption); omega)); omega); intro v221 w25 ho hb hg hat; rw [← Ny220.out] at ho; have n0_ := Aside0.mk (hb); have n1_ := Aside0.mk (ho); clear HB; have HB := n0_; have HO222 := n1_; clear n0_ n1_; clear ho hb hg hat))
                                  repeat (go_quiet (first | (go_at_call 38; (with_reducible refine (cooperageref1_Get.calls k _ _ l0 t211 t212 t213 _ ?side1 ?side2 A2.out).mono ?_); (case side1 => repeat (first | exact HR0.out | (with_reducible refine Kd.C_alloc ?_ _) | (with_reducible refine Kd.C_drewN ?_ _) | (with_reducible refine Kd.C_drew ?_))); (case side2 => exact HC0.out); rintro e w' ⟨rfl, ⟨nd, rfl⟩⟩; (try first | exact ⟨rfl, _, World.drewN_drewN _ _ _⟩ | exact ⟨rfl, _, Eq.trans (World.drewN_drewN _ _ _) (congrArg (World.drewN _) (Nat.add_assoc _ _ _))⟩); have p214 : 0 ≤ (t212 : Int) := of_decide_eq_true (by first | (with_reducible assumption) | assumption); have q214 : t212 < (l0.length : Int) := of_decide_eq_true (by first | (with_reducible assumption) | assumption); obtain ⟨ad214, e214, hx214_0⟩ := Kd.at_int HR0.out t212 p214 q214; cases e214; replace p214 := eq_true p214; replace q214 := eq_true q214; have p215 : 0 ≤ ((ji8) : Int) := of_decide_eq_true (by first | (with_reducible assumption) | assumption); have q215 : (ji8) < (l0.length : Int) := of_decide_eq_true (by first | (with_reducible assumption) | assumption); obtain ⟨ad215, e215, hx215_0⟩ := Kd.at_int HR0.out (ji8) p215 q215; obtain rfl : ad214 = ad215 := (by injection e215); replace p215 := eq_true p215; replace q215 := eq_true q215; have p216 : 0 ≤ ((ji11) : Int) := of_decide_eq_true (by first | (with_reducible assumption) | assumption); have q216 : (ji11) < (l0.length : Int) := of_decide_eq_true (by first | (with_reducible assumption) | assumption); obtain ⟨ad216, e216, hx216_0⟩ := Kd.at_int HR0.out (ji11) p216 q216; obtain rfl : ad214 = ad216 := (by injection e216); replace p216 := eq_true p216; replace q216 := eq_true q216; have p217 : 0 ≤ ((ji14) : Int) := of_decide_eq_true (by first | (with_reducible assumption) | assumption); have q217 : (ji14) < (l0.length : Int) := of_decide_eq_true (by first | (with_reducible assumption) | assumption); obtain ⟨ad217, e217, hx217_0⟩ := Kd.at_int HR0.out (ji14) p217 q217; obtain rfl : ad214 = ad217 := (by injection e217); replace p217 := eq_true p217; replace q217 := eq_true q217; obtain ⟨i024, hi024, _, hsz24, _⟩ := info_parts info5; obtain ⟨A24, hcut24, hA24, hC24⟩ := print_mid_of (P := Try.prog) (Value.int .u8) 0 30 5 .i64 .i64 Try.underlying30 hi024 hsz24 (some ad214) c0 l0 (ji17) (wrap64 ((ji17) + (wrap64 (t211)))) (of_decide_eq_true (by first | (with_reducible assumption) | assumption)) (by first | omega | exact of_decide_eq_true (by first | (with_reducible assumption) | assumption)) (of_decide_eq_true (by first | (with_reducible assumption) | assumption)) HC0.out; have HR218 := Aside0.mk (Kd.C_of_reads (h1 := fun _ => rfl) (hA24 _ (Kd.reads_of_C HR0.out))); have HC218 := Aside0.mk hC24; clear hA24 hC24 hi024 hsz24) | (go_at_call 35; refine calls_of_args (args' := #[.slice A24 ((l0.take ((wrap64 ((ji17) + (wrap64 (t211)))) : Int).toNat).drop ((ji17) : Int).toNat).length (c0 - (ji17).toNat)]) (by first | (rw [show ((l0.take ((wrap64 ((ji17) + (wrap64 (t211)))) : Int).toNat).drop ((ji17) : Int).toNat).length = ((wrap64 ((ji17) + (wrap64 (t211)))).toNat - (ji17).toNat) from (by rw [List.length_drop, List.length_take]; have h_ : ((wrap64 ((ji17) + (wrap64 (t211)))) : Int) ≤ (l0.length : Int) := of_decide_eq_true (by first | (with_reducible assumption) | assumption); omega)] <;> rfl) | (simp only [hji17]; rfl) | rfl) ?_; (with_reducible refine (cooperageref1_Sum.calls k _ _ ((l0.take ((wrap64 ((ji17) + (wrap64 (t211)))) : Int).toNat).drop ((ji17) : Int).toNat) t219 _ ?side1 ?side2 A21.out).mono ?_); (case side1 => repeat (first | exact HR218.out | (with_reducible refine Kd.C_alloc ?_ _) | (with_reducible refine Kd.C_drewN ?_ _) | (with_reducible refine Kd.C_drew ?_))); (case side2 => exact HC218.out); rintro e w' ⟨rfl, ⟨nd, rfl⟩⟩; (try first | exact ⟨rfl, _, World.drewN_drewN _ _ _⟩ | exact ⟨rfl, _, Eq.trans (World.drewN_drewN _ _ _) (congrArg (World.drewN _) (Nat.add_assoc _ _ _))⟩)) | ((with_reducible refine gate_builtin (b := .append) (xs := #[(.const (.slice none 0 0)), .tmp 71]) rfl ?_); at_builtin; refine Kd.R_append_rows (Kd.int .u8) (w0 := w) w.heap.size rfl (.const (.slice none 0 0)) (.tmp 71) 30 5 (.int .u8 0) 1 rfl Try.underlying30 info5 rfl (by decide) (by omega) (.slice none 0 0) ([] : List Int) ((l0.take ((wrap64 ((ji17) + (wrap64 (t211)))) : Int).toNat).drop ((ji17) : Int).toNat) _ _ _ (fun _ => True) (fun _ => False) rfl rfl ?aO ?aR (fun _ _ h => h) (fun _ h => h.elim) ?aF ?aB ?aS ?aL ?_; (case aR => first | (rw [← show ((l0.take ((wrap64 ((ji17) + (wrap64 (t211)))) : Int).toNat).drop ((ji17) : Int).toNat).length = ((wrap64 ((ji17) + (wrap64 (t211)))).toNat - (ji17).toNat) from (by rw [List.length_drop, List.length_take]; have h_ : ((wrap64 ((ji17) + (wrap64 (t211)))) : Int) ≤ (l0.length : Int) := of_decide_eq_true (by first | (with_reducible assumption) | assumption); omega)]; repeat (first | exact HR218.out | (with_reducible refine Kd.C_alloc ?_ _) | (with_reducible refine Kd.C_drewN ?_ _) | (with_reducible refine Kd.C_drew ?_))) | (repeat (first | exact HR218.out | (with_reducible refine Kd.C_alloc ?_ _) | (with_reducible refine Kd.C_drewN ?_ _) | (with_reducible refine Kd.C_drew ?_)))); (case aB => exact (by repeat (first | (with_reducible first | exact HB.out | apply below_alloc | apply pw_below_drewN | apply below_drew1) | exact HB.out))); (case aF => exact (fun _ _ => trivial)); (case aO => exact ((Kd.R_nil _ _ _ _ (fun _ => True)))); (case aS => exact (below_size (by repeat (first | (with_reducible first | exact HB.out | apply below_alloc | apply pw_below_drewN | apply below_drew1) | exact HB.out)))); (case aL => have := LMc23.out; have hlx_ := (show ((l0.take ((wrap64 ((ji17) + (wrap64 (t211)))) : Int).toNat).drop ((ji17) : Int).toNat).length = ((wrap64 ((ji17) + (wrap64 (t211)))).toNat - (ji17).toNat) from (by rw [List.length_drop, List.length_take]; have h_ : ((wrap64 ((ji17) + (wrap64 (t211)))) : Int) ≤ (l0.length : Int) := of_decide_eq_true (by first | (with_reducible assumption) | assumption); omega)); omega); intro v221 w25 ho hb hg hat; rw [← Ny220.out] at ho; have n0_ := Aside0.mk (hb); have n1_ := Aside0.mk (ho); clear HB; have HB := n0_; have HO222 := n1_; clear n0_ n1_; clear ho hb hg hat)); try go_wp2_with (first | (go_at_call 38; (with_reducible refine (cooperageref1_Get.calls k _ _ l0 t211 t212 t213 _ ?side1 ?side2 A2.out).mono ?_); (case side1 => repeat (first | exact HR0.out | (with_reducible refine Kd.C_alloc ?_ _) | (with_reducible refine Kd.C_drewN ?_ _) | (with_reducible refine Kd.C_drew ?_))); (case side2 => exact HC0.out); rintro e w' ⟨rfl, ⟨nd, rfl⟩⟩; (try first | exact ⟨rfl, _, World.drewN_drewN _ _ _⟩ | exact ⟨rfl, _, Eq.trans (World.drewN_drewN _ _ _) (congrArg (World.drewN _) (Nat.add_assoc _ _ _))⟩); have p214 : 0 ≤ (t212 : Int) := of_decide_eq_true (by first | (with_reducible assumption) | assumption); have q214 : t212 < (l0.length : Int) := of_decide_eq_true (by first | (with_reducible assumption) | assumption); obtain ⟨ad214, e214, hx214_0⟩ := Kd.at_int HR0.out t212 p214 q214; cases e214; replace p214 := eq_true p214; replace q214 := eq_true q214; have p215 : 0 ≤ ((ji8) : Int) := of_decide_eq_true (by first | (with_reducible assumption) | assumption); have q215 : (ji8) < (l0.length : Int) := of_decide_eq_true (by first | (with_reducible assumption) | assumption); obtain ⟨ad215, e215, hx215_0⟩ := Kd.at_int HR0.out (ji8) p215 q215; obtain rfl : ad214 = ad215 := (by injection e215); replace p215 := eq_true p215; replace q215 := eq_true q215; have p216 : 0 ≤ ((ji11) : Int) := of_decide_eq_true (by first | (with_reducible assumption) | assumption); have q216 : (ji11) < (l0.length : Int) := of_decide_eq_true (by first | (with_reducible assumption) | assumption); obtain ⟨ad216, e216, hx216_0⟩ := Kd.at_int HR0.out (ji11) p216 q216; obtain rfl : ad214 = ad216 := (by injection e216); replace p216 := eq_true p216; replace q216 := eq_true q216; have p217 : 0 ≤ ((ji14) : Int) := of_decide_eq_true (by first | (with_reducible assumption) | assumption); have q217 : (ji14) < (l0.length : Int) := of_decide_eq_true (by first | (with_reducible assumption) | assumption); obtain ⟨ad217, e217, hx217_0⟩ := Kd.at_int HR0.out (ji14) p217 q217; obtain rfl : ad214 = ad217 := (by injection e217); replace p217 := eq_true p217; replace q217 := eq_true q217; obtain ⟨i024, hi024, _, hsz24, _⟩ := info_parts info5; obtain ⟨A24, hcut24, hA24, hC24⟩ := print_mid_of (P := Try.prog) (Value.int .u8) 0 30 5 .i64 .i64 Try.underlying30 hi024 hsz24 (some ad214) c0 l0 (ji17) (wrap64 ((ji17) + (wrap64 (t211)))) (of_decide_eq_true (by first | (with_reducible assumption) | assumption)) (by first | omega | exact of_decide_eq_true (by first | (with_reducible assumption) | assumption)) (of_decide_eq_true (by first | (with_reducible assumption) | assumption)) HC0.out; have HR218 := Aside0.mk (Kd.C_of_reads (h1 := fun _ => rfl) (hA24 _ (Kd.reads_of_C HR0.out))); have HC218 := Aside0.mk hC24; clear hA24 hC24 hi024 hsz24) | (go_at_call 35; refine calls_of_args (args' := #[.slice A24 ((l0.take ((wrap64 ((ji17) + (wrap64 (t211)))) : Int).toNat).drop ((ji17) : Int).toNat).length (c0 - (ji17).toNat)]) (by first | (rw [show ((l0.take ((wrap64 ((ji17) + (wrap64 (t211)))) : Int).toNat).drop ((ji17) : Int).toNat).length = ((wrap64 ((ji17) + (wrap64 (t211)))).toNat - (ji17).toNat) from (by rw [List.length_drop, List.length_take]; have h_ : ((wrap64 ((ji17) + (wrap64 (t211)))) : Int) ≤ (l0.length : Int) := of_decide_eq_true (by first | (with_reducible assumption) | assumption); omega)] <;> rfl) | (simp only [hji17]; rfl) | rfl) ?_; (with_reducible refine (cooperageref1_Sum.calls k _ _ ((l0.take ((wrap64 ((ji17) + (wrap64 (t211)))) : Int).toNat).drop ((ji17) : Int).toNat) t219 _ ?side1 ?side2 A21.out).mono ?_); (case side1 => repeat (first | exact HR218.out | (with_reducible refine Kd.C_alloc ?_ _) | (with_reducible refine Kd.C_drewN ?_ _) | (with_reducible refine Kd.C_drew ?_))); (case side2 => exact HC218.out); rintro e w' ⟨rfl, ⟨nd, rfl⟩⟩; (try first | exact ⟨rfl, _, World.drewN_drewN _ _ _⟩ | exact ⟨rfl, _, Eq.trans (World.drewN_drewN _ _ _) (congrArg (World.drewN _) (Nat.add_assoc _ _ _))⟩)) | ((with_reducible refine gate_builtin (b := .append) (xs := #[(.const (.slice none 0 0)), .tmp 71]) rfl ?_); at_builtin; refine Kd.R_append_rows (Kd.int .u8) (w0 := w) w.heap.size rfl (.const (.slice none 0 0)) (.tmp 71) 30 5 (.int .u8 0) 1 rfl Try.underlying30 info5 rfl (by decide) (by omega) (.slice none 0 0) ([] : List Int) ((l0.take ((wrap64 ((ji17) + (wrap64 (t211)))) : Int).toNat).drop ((ji17) : Int).toNat) _ _ _ (fun _ => True) (fun _ => False) rfl rfl ?aO ?aR (fun _ _ h => h) (fun _ h => h.elim) ?aF ?aB ?aS ?aL ?_; (case aR => first | (rw [← show ((l0.take ((wrap64 ((ji17) + (wrap64 (t211)))) : Int).toNat).drop ((ji17) : Int).toNat).length = ((wrap64 ((ji17) + (wrap64 (t211)))).toNat - (ji17).toNat) from (by rw [List.length_drop, List.length_take]; have h_ : ((wrap64 ((ji17) + (wrap64 (t211)))) : Int) ≤ (l0.length : Int) := of_decide_eq_true (by first | (with_reducible assumption) | assumption); omega)]; repeat (first | exact HR218.out | (with_reducible refine Kd.C_alloc ?_ _) | (with_reducible refine Kd.C_drewN ?_ _) | (with_reducible refine Kd.C_drew ?_))) | (repeat (first | exact HR218.out | (with_reducible refine Kd.C_alloc ?_ _) | (with_reducible refine Kd.C_drewN ?_ _) | (with_reducible refine Kd.C_drew ?_)))); (case aB => exact (by repeat (first | (with_reducible first | exact HB.out | apply below_alloc | apply pw_below_drewN | apply below_drew1) | exact HB.out))); (case aF => exact (fun _ _ => trivial)); (case aO => exact ((Kd.R_nil _ _ _ _ (fun _ => True)))); (case aS => exact (below_size (by repeat (first | (with_reducible first | exact HB.out | apply below_alloc | apply pw_below_drewN | apply below_drew1) | exact HB.out)))); (case aL => have := LMc23.out; have hlx_ := (show ((l0.take ((wrap64 ((ji17) + (wrap64 (t211)))) : Int).toNat).drop ((ji17) : Int).toNat).length = ((wrap64 ((ji17) + (wrap64 (t211)))).toNat - (ji17).toNat) from (by rw [List.length_drop, List.length_take]; have h_ : ((wrap64 ((ji17) + (wrap64 (t211)))) : Int) ≤ (l0.length : Int) := of_decide_eq_true (by first | (with_reducible assumption) | assumption); omega)); omega); intro v221 w25 ho hb hg hat; rw [← Ny220.out] at ho; have n0_ := Aside0.mk (hb); have n1_ := Aside0.mk (ho); clear HB; have HB := n0_; have HO222 := n1_; clear n0_ n1_; clear ho hb hg hat)))
                                  go_ret3
                                  exact ⟨_, by first | rfl | (simp [errW_none, errW_some] <;> rfl) | (simp only [← hji8, ← hji11, ← hji14, ← hji17]; first | rfl | (simp [errW_none, errW_some] <;> rfl)) | (simp [*, errW_none, errW_some] <;> rfl) | (simp [errW_none, errW_some]; generalize ByteArray.toList _ = l_; cases l_ <;> rfl), by (with_reducible repeat (first | apply Kd.R_alloc | apply Kd.R_drewN | apply Kd.R_drew)); exact HO222.out, by repeat (first | (with_reducible first | exact HB.out | apply below_alloc | apply pw_below_drewN | apply below_drew1) | exact HB.out)⟩
                                · rw [if_neg c23] at H
                                  exact absurd H (by simp)
                              · rw [if_neg c22] at H
                                have c22b0 : (t219 == (Go.bits .or .u32 (Go.bits .or .u32 (Go.bits .or .u32 ((((rd l0 t212) % 4294967296) * 16777216) % 4294967296) ((((rd l0 (ji8)) % 4294967296) * 65536) % 4294967296)) ((((rd l0 (ji11)) % 4294967296) * 256) % 4294967296)) ((rd l0 (ji14)) % 4294967296))) = false := beq_eq_false_iff_ne.mpr c22
                                have c22b1 : (t219 != (Go.bits .or .u32 (Go.bits .or .u32 (Go.bits .or .u32 ((((rd l0 t212) % 4294967296) * 16777216) % 4294967296) ((((rd l0 (ji8)) % 4294967296) * 65536) % 4294967296)) ((((rd l0 (ji11)) % 4294967296) * 256) % 4294967296)) ((rd l0 (ji14)) % 4294967296))) = true := bne_iff_ne.mpr c22
                                simp only [Option.some.injEq, Prod.mk.injEq] at H
                                obtain ⟨rfl, rfl, rfl⟩ := H
                                go_enter Try.func21, Try.ntmps21
                                go_wp2_with (first | (go_at_call 38; (with_reducible refine (cooperageref1_Get.calls k _ _ l0 t211 t212 t213 _ ?side1 ?side2 A2.out).mono ?_); (case side1 => repeat (first | exact HR0.out | (with_reducible refine Kd.C_alloc ?_ _) | (with_reducible refine Kd.C_drewN ?_ _) | (with_reducible refine Kd.C_drew ?_))); (case side2 => exact HC0.out); rintro e w' ⟨rfl, ⟨nd, rfl⟩⟩; (try first | exact ⟨rfl, _, World.drewN_drewN _ _ _⟩ | exact ⟨rfl, _, Eq.trans (World.drewN_drewN _ _ _) (congrArg (World.drewN _) (Nat.add_assoc _ _ _))⟩); have p214 : 0 ≤ (t212 : Int) := of_decide_eq_true (by first | (with_reducible assumption) | assumption); have q214 : t212 < (l0.length : Int) := of_decide_eq_true (by first | (with_reducible assumption) | assumption); obtain ⟨ad214, e214, hx214_0⟩ := Kd.at_int HR0.out t212 p214 q214; cases e214; replace p214 := eq_true p214; replace q214 := eq_true q214; have p215 : 0 ≤ ((ji8) : Int) := of_decide_eq_true (by first | (with_reducible assumption) | assumption); have q215 : (ji8) < (l0.length : Int) := of_decide_eq_true (by first | (with_reducible assumption) | assumption); obtain ⟨ad215, e215, hx215_0⟩ := Kd.at_int HR0.out (ji8) p215 q215; obtain rfl : ad214 = ad215 := (by injection e215); replace p215 := eq_true p215; replace q215 := eq_true q215; have p216 : 0 ≤ ((ji11) : Int) := of_decide_eq_true (by first | (with_reducible assumption) | assumption); have q216 : (ji11) < (l0.length : Int) := of_decide_eq_true (by first | (with_reducible assumption) | assumption); obtain ⟨ad216, e216, hx216_0⟩ := Kd.at_int HR0.out (ji11) p216 q216; obtain rfl : ad214 = ad216 := (by injection e216); replace p216 := eq_true p216; replace q216 := eq_true q216; have p217 : 0 ≤ ((ji14) : Int) := of_decide_eq_true (by first | (with_reducible assumption) | assumption); have q217 : (ji14) < (l0.length : Int) := of_decide_eq_true (by first | (with_reducible assumption) | assumption); obtain ⟨ad217, e217, hx217_0⟩ := Kd.at_int HR0.out (ji14) p217 q217; obtain rfl : ad214 = ad217 := (by injection e217); replace p217 := eq_true p217; replace q217 := eq_true q217; obtain ⟨i026, hi026, _, hsz26, _⟩ := info_parts info5; obtain ⟨A26, hcut26, hA26, hC26⟩ := print_mid_of (P := Try.prog) (Value.int .u8) 0 30 5 .i64 .i64 Try.underlying30 hi026 hsz26 (some ad214) c0 l0 (ji17) (wrap64 ((ji17) + (wrap64 (t211)))) (of_decide_eq_true (by first | (with_reducible assumption) | assumption)) (by first | omega | exact of_decide_eq_true (by first | (with_reducible assumption) | assumption)) (of_decide_eq_true (by first | (with_reducible assumption) | assumption)) HC0.out; have HR218 := Aside0.mk (Kd.C_of_reads (h1 := fun _ => rfl) (hA26 _ (Kd.reads_of_C HR0.out))); have HC218 := Aside0.mk hC26; clear hA26 hC26 hi026 hsz26) | (go_at_call 35; refine calls_of_args (args' := #[.slice A26 ((l0.take ((wrap64 ((ji17) + (wrap64 (t211)))) : Int).toNat).drop ((ji17) : Int).toNat).length (c0 - (ji17).toNat)]) (by first | (rw [show ((l0.take ((wrap64 ((ji17) + (wrap64 (t211)))) : Int).toNat).drop ((ji17) : Int).toNat).length = ((wrap64 ((ji17) + (wrap64 (t211)))).toNat - (ji17).toNat) from (by rw [List.length_drop, List.length_take]; have h_ : ((wrap64 ((ji17) + (wrap64 (t211)))) : Int) ≤ (l0.length : Int) := of_decide_eq_true (by first | (with_reducible assumption) | assumption); omega)] <;> rfl) | (simp only [hji17]; rfl) | rfl) ?_; (with_reducible refine (cooperageref1_Sum.calls k _ _ ((l0.take ((wrap64 ((ji17) + (wrap64 (t211)))) : Int).toNat).drop ((ji17) : Int).toNat) t219 _ ?side1 ?side2 A21.out).mono ?_); (case side1 => repeat (first | exact HR218.out | (with_reducible refine Kd.C_alloc ?_ _) | (with_reducible refine Kd.C_drewN ?_ _) | (with_reducible refine Kd.C_drew ?_))); (case side2 => exact HC218.out); rintro e w' ⟨rfl, ⟨nd, rfl⟩⟩; (try first | exact ⟨rfl, _, World.drewN_drewN _ _ _⟩ | exact ⟨rfl, _, Eq.trans (World.drewN_drewN _ _ _) (congrArg (World.drewN _) (Nat.add_assoc _ _ _))⟩)))
                                repeat (go_quiet (first | (go_at_call 38; (with_reducible refine (cooperageref1_Get.calls k _ _ l0 t211 t212 t213 _ ?side1 ?side2 A2.out).mono ?_); (case side1 => repeat (first | exact HR0.out | (with_reducible refine Kd.C_alloc ?_ _) | (with_reducible refine Kd.C_drewN ?_ _) | (with_reducible refine Kd.C_drew ?_))); (case side2 => exact HC0.out); rintro e w' ⟨rfl, ⟨nd, rfl⟩⟩; (try first | exact ⟨rfl, _, World.drewN_drewN _ _ _⟩ | exact ⟨rfl, _, Eq.trans (World.drewN_drewN _ _ _) (congrArg (World.drewN _) (Nat.add_assoc _ _ _))⟩); have p214 : 0 ≤ (t212 : Int) := of_decide_eq_true (by first | (with_reducible assumption) | assumption); have q214 : t212 < (l0.length : Int) := of_decide_eq_true (by first | (with_reducible assumption) | assumption); obtain ⟨ad214, e214, hx214_0⟩ := Kd.at_int HR0.out t212 p214 q214; cases e214; replace p214 := eq_true p214; replace q214 := eq_true q214; have p215 : 0 ≤ ((ji8) : Int) := of_decide_eq_true (by first | (with_reducible assumption) | assumption); have q215 : (ji8) < (l0.length : Int) := of_decide_eq_true (by first | (with_reducible assumption) | assumption); obtain ⟨ad215, e215, hx215_0⟩ := Kd.at_int HR0.out (ji8) p215 q215; obtain rfl : ad214 = ad215 := (by injection e215); replace p215 := eq_true p215; replace q215 := eq_true q215; have p216 : 0 ≤ ((ji11) : Int) := of_decide_eq_true (by first | (with_reducible assumption) | assumption); have q216 : (ji11) < (l0.length : Int) := of_decide_eq_true (by first | (with_reducible assumption) | assumption); obtain ⟨ad216, e216, hx216_0⟩ := Kd.at_int HR0.out (ji11) p216 q216; obtain rfl : ad214 = ad216 := (by injection e216); replace p216 := eq_true p216; replace q216 := eq_true q216; have p217 : 0 ≤ ((ji14) : Int) := of_decide_eq_true (by first | (with_reducible assumption) | assumption); have q217 : (ji14) < (l0.length : Int) := of_decide_eq_true (by first | (with_reducible assumption) | assumption); obtain ⟨ad217, e217, hx217_0⟩ := Kd.at_int HR0.out (ji14) p217 q217; obtain rfl : ad214 = ad217 := (by injection e217); replace p217 := eq_true p217; replace q217 := eq_true q217; obtain ⟨i026, hi026, _, hsz26, _⟩ := info_parts info5; obtain ⟨A26, hcut26, hA26, hC26⟩ := print_mid_of (P := Try.prog) (Value.int .u8) 0 30 5 .i64 .i64 Try.underlying30 hi026 hsz26 (some ad214) c0 l0 (ji17) (wrap64 ((ji17) + (wrap64 (t211)))) (of_decide_eq_true (by first | (with_reducible assumption) | assumption)) (by first | omega | exact of_decide_eq_true (by first | (with_reducible assumption) | assumption)) (of_decide_eq_true (by first | (with_reducible assumption) | assumption)) HC0.out; have HR218 := Aside0.mk (Kd.C_of_reads (h1 := fun _ => rfl) (hA26 _ (Kd.reads_of_C HR0.out))); have HC218 := Aside0.mk hC26; clear hA26 hC26 hi026 hsz26) | (go_at_call 35; refine calls_of_args (args' := #[.slice A26 ((l0.take ((wrap64 ((ji17) + (wrap64 (t211)))) : Int).toNat).drop ((ji17) : Int).toNat).length (c0 - (ji17).toNat)]) (by first | (rw [show ((l0.take ((wrap64 ((ji17) + (wrap64 (t211)))) : Int).toNat).drop ((ji17) : Int).toNat).length = ((wrap64 ((ji17) + (wrap64 (t211)))).toNat - (ji17).toNat) from (by rw [List.length_drop, List.length_take]; have h_ : ((wrap64 ((ji17) + (wrap64 (t211)))) : Int) ≤ (l0.length : Int) := of_decide_eq_true (by first | (with_reducible assumption) | assumption); omega)] <;> rfl) | (simp only [hji17]; rfl) | rfl) ?_; (with_reducible refine (cooperageref1_Sum.calls k _ _ ((l0.take ((wrap64 ((ji17) + (wrap64 (t211)))) : Int).toNat).drop ((ji17) : Int).toNat) t219 _ ?side1 ?side2 A21.out).mono ?_); (case side1 => repeat (first | exact HR218.out | (with_reducible refine Kd.C_alloc ?_ _) | (with_reducible refine Kd.C_drewN ?_ _) | (with_reducible refine Kd.C_drew ?_))); (case side2 => exact HC218.out); rintro e w' ⟨rfl, ⟨nd, rfl⟩⟩; (try first | exact ⟨rfl, _, World.drewN_drewN _ _ _⟩ | exact ⟨rfl, _, Eq.trans (World.drewN_drewN _ _ _) (congrArg (World.drewN _) (Nat.add_assoc _ _ _))⟩))); try go_wp2_with (first | (go_at_call 38; (with_reducible refine (cooperageref1_Get.calls k _ _ l0 t211 t212 t213 _ ?side1 ?side2 A2.out).mono ?_); (case side1 => repeat (first | exact HR0.out | (with_reducible refine Kd.C_alloc ?_ _) | (with_reducible refine Kd.C_drewN ?_ _) | (with_reducible refine Kd.C_drew ?_))); (case side2 => exact HC0.out); rintro e w' ⟨rfl, ⟨nd, rfl⟩⟩; (try first | exact ⟨rfl, _, World.drewN_drewN _ _ _⟩ | exact ⟨rfl, _, Eq.trans (World.drewN_drewN _ _ _) (congrArg (World.drewN _) (Nat.add_assoc _ _ _))⟩); have p214 : 0 ≤ (t212 : Int) := of_decide_eq_true (by first | (with_reducible assumption) | assumption); have q214 : t212 < (l0.length : Int) := of_decide_eq_true (by first | (with_reducible assumption) | assumption); obtain ⟨ad214, e214, hx214_0⟩ := Kd.at_int HR0.out t212 p214 q214; cases e214; replace p214 := eq_true p214; replace q214 := eq_true q214; have p215 : 0 ≤ ((ji8) : Int) := of_decide_eq_true (by first | (with_reducible assumption) | assumption); have q215 : (ji8) < (l0.length : Int) := of_decide_eq_true (by first | (with_reducible assumption) | assumption); obtain ⟨ad215, e215, hx215_0⟩ := Kd.at_int HR0.out (ji8) p215 q215; obtain rfl : ad214 = ad215 := (by injection e215); replace p215 := eq_true p215; replace q215 := eq_true q215; have p216 : 0 ≤ ((ji11) : Int) := of_decide_eq_true (by first | (with_reducible assumption) | assumption); have q216 : (ji11) < (l0.length : Int) := of_decide_eq_true (by first | (with_reducible assumption) | assumption); obtain ⟨ad216, e216, hx216_0⟩ := Kd.at_int HR0.out (ji11) p216 q216; obtain rfl : ad214 = ad216 := (by injection e216); replace p216 := eq_true p216; replace q216 := eq_true q216; have p217 : 0 ≤ ((ji14) : Int) := of_decide_eq_true (by first | (with_reducible assumption) | assumption); have q217 : (ji14) < (l0.length : Int) := of_decide_eq_true (by first | (with_reducible assumption) | assumption); obtain ⟨ad217, e217, hx217_0⟩ := Kd.at_int HR0.out (ji14) p217 q217; obtain rfl : ad214 = ad217 := (by injection e217); replace p217 := eq_true p217; replace q217 := eq_true q217; obtain ⟨i026, hi026, _, hsz26, _⟩ := info_parts info5; obtain ⟨A26, hcut26, hA26, hC26⟩ := print_mid_of (P := Try.prog) (Value.int .u8) 0 30 5 .i64 .i64 Try.underlying30 hi026 hsz26 (some ad214) c0 l0 (ji17) (wrap64 ((ji17) + (wrap64 (t211)))) (of_decide_eq_true (by first | (with_reducible assumption) | assumption)) (by first | omega | exact of_decide_eq_true (by first | (with_reducible assumption) | assumption)) (of_decide_eq_true (by first | (with_reducible assumption) | assumption)) HC0.out; have HR218 := Aside0.mk (Kd.C_of_reads (h1 := fun _ => rfl) (hA26 _ (Kd.reads_of_C HR0.out))); have HC218 := Aside0.mk hC26; clear hA26 hC26 hi026 hsz26) | (go_at_call 35; refine calls_of_args (args' := #[.slice A26 ((l0.take ((wrap64 ((ji17) + (wrap64 (t211)))) : Int).toNat).drop ((ji17) : Int).toNat).length (c0 - (ji17).toNat)]) (by first | (rw [show ((l0.take ((wrap64 ((ji17) + (wrap64 (t211)))) : Int).toNat).drop ((ji17) : Int).toNat).length = ((wrap64 ((ji17) + (wrap64 (t211)))).toNat - (ji17).toNat) from (by rw [List.length_drop, List.length_take]; have h_ : ((wrap64 ((ji17) + (wrap64 (t211)))) : Int) ≤ (l0.length : Int) := of_decide_eq_true (by first | (with_reducible assumption) | assumption); omega)] <;> rfl) | (simp only [hji17]; rfl) | rfl) ?_; (with_reducible refine (cooperageref1_Sum.calls k _ _ ((l0.take ((wrap64 ((ji17) + (wrap64 (t211)))) : Int).toNat).drop ((ji17) : Int).toNat) t219 _ ?side1 ?side2 A21.out).mono ?_); (case side1 => repeat (first | exact HR218.out | (with_reducible refine Kd.C_alloc ?_ _) | (with_reducible refine Kd.C_drewN ?_ _) | (with_reducible refine Kd.C_drew ?_))); (case side2 => exact HC218.out); rintro e w' ⟨rfl, ⟨nd, rfl⟩⟩; (try first | exact ⟨rfl, _, World.drewN_drewN _ _ _⟩ | exact ⟨rfl, _, Eq.trans (World.drewN_drewN _ _ _) (congrArg (World.drewN _) (Nat.add_assoc _ _ _))⟩))))
                                go_ret3
                                exact ⟨_, by first | rfl | (simp [errW_none, errW_some] <;> rfl) | (simp only [← hji8, ← hji11, ← hji14, ← hji17]; first | rfl | (simp [errW_none, errW_some] <;> rfl)) | (simp [*, errW_none, errW_some] <;> rfl) | (simp [errW_none, errW_some]; generalize ByteArray.toList _ = l_; cases l_ <;> rfl), by first | exact Kd.R_nil _ _ _ _ _ | exact Kd.N_nil _ _ _ _ _ | exact Kd.V_nil _ _ _ _ _ | exact Kd.Q_nil _ _ _ _ _ | exact Kd.S_nil _ _ _ _ _, by repeat (first | (with_reducible first | exact HB.out | apply below_alloc | apply pw_below_drewN | apply below_drew1) | exact HB.out)⟩
                            · rw [if_neg c20] at H
                              exact absurd H (by simp)
                          · rw [if_neg c19] at H
                            exact absurd H (by simp)
                        · rw [if_neg c18] at H
                          exact absurd H (by simp)
                      · rw [if_neg c16] at H
                        exact absurd H (by simp)
                    · rw [if_neg c15] at H
                      exact absurd H (by simp)
                  · rw [if_neg c13] at H
                    exact absurd H (by simp)
                · rw [if_neg c12] at H
                  exact absurd H (by simp)
              · rw [if_neg c10] at H
                exact absurd H (by simp)
            · rw [if_neg c9] at H
              exact absurd H (by simp)
          · rw [if_neg c7] at H
            exact absurd H (by simp)
        · rw [if_neg c6] at H
          exact absurd H (by simp)
  · rw [if_neg c3] at H
    have c3b0 : (t213 == 0) = false := beq_eq_false_iff_ne.mpr c3
    have c3b1 : (t213 != 0) = true := bne_iff_ne.mpr c3
    simp only [Option.some.injEq, Prod.mk.injEq] at H
    obtain ⟨rfl, rfl, rfl⟩ := H
    go_enter Try.func21, Try.ntmps21
    go_wp2_with (first | (go_at_call 38; (with_reducible refine (cooperageref1_Get.calls k _ _ l0 t211 t212 t213 _ ?side1 ?side2 A2.out).mono ?_); (case side1 => repeat (first | exact HR0.out | (with_reducible refine Kd.C_alloc ?_ _) | (with_reducible refine Kd.C_drewN ?_ _) | (with_reducible refine Kd.C_drew ?_))); (case side2 => exact HC0.out); rintro e w' ⟨rfl, ⟨nd, rfl⟩⟩; (try first | exact ⟨rfl, _, World.drewN_drewN _ _ _⟩ | exact ⟨rfl, _, Eq.trans (World.drewN_drewN _ _ _) (congrArg (World.drewN _) (Nat.add_assoc _ _ _))⟩)))
    repeat (go_quiet (first | (go_at_call 38; (with_reducible refine (cooperageref1_Get.calls k _ _ l0 t211 t212 t213 _ ?side1 ?side2 A2.out).mono ?_); (case side1 => repeat (first | exact HR0.out | (with_reducible refine Kd.C_alloc ?_ _) | (with_reducible refine Kd.C_drewN ?_ _) | (with_reducible refine Kd.C_drew ?_))); (case side2 => exact HC0.out); rintro e w' ⟨rfl, ⟨nd, rfl⟩⟩; (try first | exact ⟨rfl, _, World.drewN_drewN _ _ _⟩ | exact ⟨rfl, _, Eq.trans (World.drewN_drewN _ _ _) (congrArg (World.drewN _) (Nat.add_assoc _ _ _))⟩))); try go_wp2_with (first | (go_at_call 38; (with_reducible refine (cooperageref1_Get.calls k _ _ l0 t211 t212 t213 _ ?side1 ?side2 A2.out).mono ?_); (case side1 => repeat (first | exact HR0.out | (with_reducible refine Kd.C_alloc ?_ _) | (with_reducible refine Kd.C_drewN ?_ _) | (with_reducible refine Kd.C_drew ?_))); (case side2 => exact HC0.out); rintro e w' ⟨rfl, ⟨nd, rfl⟩⟩; (try first | exact ⟨rfl, _, World.drewN_drewN _ _ _⟩ | exact ⟨rfl, _, Eq.trans (World.drewN_drewN _ _ _) (congrArg (World.drewN _) (Nat.add_assoc _ _ _))⟩))))
    go_ret3
    exact ⟨_, by first | rfl | (simp [errW_none, errW_some] <;> rfl) | (simp [*, errW_none, errW_some] <;> rfl) | (simp [errW_none, errW_some]; generalize ByteArray.toList _ = l_; cases l_ <;> rfl), by first | exact Kd.R_nil _ _ _ _ _ | exact Kd.N_nil _ _ _ _ _ | exact Kd.V_nil _ _ _ _ _ | exact Kd.Q_nil _ _ _ _ _ | exact Kd.S_nil _ _ _ _ _, by repeat (first | (with_reducible first | exact HB.out | apply below_alloc | apply pw_below_drewN | apply below_drew1) | exact HB.out)⟩

/-! ### frame_All: function 22 -/
def frame_All.l0 : Nat → List Int → List (List Int) → Int → Option ((List (List Int)) × Int)
  | 0, _, _, _ => none
  | k + 1, x0, x4, x5 => if x5 < (x0.length : Int) then (if 0 ≤ x5 then (if x5 ≤ (x0.length : Int) then ((frame_Get.f k (x0.drop (x5 : Int).toNat)).bind fun bt224 => (if bt224.2.2 = 0 then (if x4.length < 5864062014805 then (frame_All.l0 k x0 (x4 ++ [bt224.1]) (wrap64 (x5 + bt224.2.1))) else (none)) else (some (x4, x5)))) else (none)) else (none)) else (some (x4, x5))
def frame_All.f (k : Nat) (l0 : List Int) : Option ((List (List Int)) × Int) := frame_All.l0 k l0 ([] : List (List Int)) 0
theorem frame_All.mono_l : ∀ k, (∀ y0 y1 y2, LeO (frame_All.l0 k y0 y1 y2) (frame_All.l0 (k + 1) y0 y1 y2))
  | 0 => fun _ _ _ r h => by simp [frame_All.l0] at h
  | k + 1 => by
    have ih0 := frame_All.mono_l k
    · intro y0 y1 y2
      unfold frame_All.l0
      repeat' first
      | (with_reducible exact ih0 _ _ _)
      | (with_reducible exact frame_Get.mono _ _)
      | (with_reducible exact LeO.refl _)
      | (with_reducible exact LeO.none _)
      | (with_reducible refine LeO.ite ?_ ?_)
      | (with_reducible refine LeO.bind ?_ (fun _ => ?_))
      | exact ih0 _ _ _
      | exact frame_Get.mono _ _
      | exact LeO.none _
      | refine LeO.ite ?_ ?_
      | refine LeO.bind ?_ (fun _ => ?_)
theorem frame_All.mono : ∀ a0 k, LeO (frame_All.f k a0) (frame_All.f (k + 1) a0) := by
  intro a0 k
  have ih0 := frame_All.mono_l k
  unfold frame_All.f
  repeat' first
      | (with_reducible exact ih0 _ _ _)
      | (with_reducible exact frame_Get.mono _ _)
      | (with_reducible exact LeO.refl _)
      | (with_reducible exact LeO.none _)
      | (with_reducible refine LeO.ite ?_ ?_)
      | (with_reducible refine LeO.bind ?_ (fun _ => ?_))
      | exact ih0 _ _ _
      | exact frame_Get.mono _ _
      | exact LeO.none _
      | refine LeO.ite ?_ ?_
      | refine LeO.bind ?_ (fun _ => ?_)
set_option maxHeartbeats 8000000 in
set_option maxRecDepth 100000 in
theorem frame_All.calls (k : Nat) (A0 : Option Addr) (c0 : Nat) (l0 : List Int) (r1 : List (List Int)) (r2 : Int) (w : World) (hr0 : Kd.C (Kd.int .u8) w A0 l0.length l0) (hc0 : l0.length ≤ c0) (h : frame_All.f k l0 = some (r1, r2)) :
    Calls Try.prog 22 #[.slice A0 l0.length c0] w fun e w' => ∃ v0_ : Value, e = .returned (.tuple #[v0_, .int .i64 r2]) ∧ Kd.S (Kd.slice 5 (Kd.int .u8)) 30 w' w.heap.size (fun _ => True) v0_ r1 ∧ Below w.heap.size w w' := by
  have HR0 := Aside0.mk hr0
  have HC0 := Aside0.mk hc0
  clear hr0 hc0
  have HB := Aside0.mk (Below.refl w.heap.size w)
  have H : (frame_All.l0 k l0 ([] : List (List Int)) 0) = some (r1, r2) := h
  clear h
  have H' := Aside0.mk H
  clear H
  go_enter Try.func22, Try.ntmps22
  go_wp2
  go_loopg [4, 5] k (fun kq v4 v5 w' => ∃ (x4_1 : List (List Int)) (x5_1 : Int), v5 = .int .i64 x5_1 ∧ Aside0 (frame_All.l0 kq l0 x4_1 x5_1 = some (r1, r2)) ∧ Aside0 (kq ≤ k) ∧ Aside0 (Kd.S (Kd.slice 5 (Kd.int .u8)) 30 w' w.heap.size (fun _ => True) v4 x4_1) ∧ Aside0 (Below w.heap.size w w'))
  case atStart => exact ⟨(([] : List (List Int))), (0), (by first | rfl | (simp; done) | (simp [*]; done)), H', ⟨Nat.le_refl _⟩, ⟨by first | exact Kd.S_nil _ _ _ _ _ | exact Kd.N_nil _ _ _ _ _ | exact Kd.V_nil _ _ _ _ _ | exact Kd.Q_nil _ _ _ _ _ | exact Kd.R_nil _ _ _ _ _⟩, ⟨by repeat (first | (with_reducible first | exact HB.out | apply below_alloc | apply pw_below_drewN | apply below_drew1) | exact HB.out)⟩⟩
  case round =>
    clear H'
    obtain ⟨x4_1, x5_1, rfl, HA, HK1, HO_4, HB⟩ := hrel
    cases gk with
    | zero => exact absurd HA.out (by simp [frame_All.l0])
    | succ k1 =>
      have H := HA.out
      clear HA
      simp only [frame_All.l0] at H
      by_cases c2 : x5_1 < (l0.length : Int)
      · rw [if_pos c2] at H
        have c2b0 : decide (x5_1 < (l0.length : Int)) = true := decide_eq_true c2
        clear c2
        by_cases c3 : 0 ≤ x5_1
        · rw [if_pos c3] at H
          have c3b0 := eq_true c3
          have c3b1 : decide (0 ≤ x5_1) = true := decide_eq_true c3
          clear c3
          by_cases c4 : x5_1 ≤ (l0.length : Int)
          · rw [if_pos c4] at H
            have c4b0 := eq_true c4
            have c4b1 : decide (x5_1 ≤ (l0.length : Int)) = true := decide_eq_true c4
            clear c4
            replace H := Option.bind_eq_some_iff.mp H
            obtain ⟨⟨t224, t225, t226⟩, A50, H⟩ := H
            replace H : (if t226 = 0 then (if x4_1.length < 5864062014805 then (frame_All.l0 k1 l0 (x4_1 ++ [t224]) (wrap64 (x5_1 + t225))) else (none)) else (some (x4_1, x5_1))) = some (r1, r2) := H
            have A5 := Aside0.mk A50
            clear A50
            by_cases c6 : t226 = 0
            · rw [if_pos c6] at H
              have c6b0 : (t226 == 0) = true := beq_iff_eq.mpr c6
              have c6b1 : (t226 != 0) = false := bne_eq_false_iff_eq.mpr c6
              clear c6
              by_cases c7 : x4_1.length < 5864062014805
              · rw [if_pos c7] at H
                have LMc7 := Aside0.mk c7
                clear c7
                obtain ⟨y229, hy229⟩ : ∃ y_ : List (List Int), y_ = (x4_1 ++ [t224]) := ⟨_, rfl⟩
                replace H : (frame_All.l0 k1 l0 y229 (wrap64 (x5_1 + t225))) = some (r1, r2) := by first | (rw [hy229]; with_reducible exact H) | (have H2_ := (Option.bind_some _ _).symm.trans H; rw [hy229]; with_reducible exact H2_) | (have H2_ := (Option.bind_some _ _).symm.trans H; with_reducible exact H2_) | with_reducible exact H | (rw [hy229]; exact H) | exact H
                have Ny229 := Aside0.mk hy229
                clear hy229
                have H' := Aside0.mk H
                clear H
                obtain ⟨i08, hi08, _, hsz8, _⟩ := info_parts info5
                obtain ⟨A8, hcut8, hA8, hC8⟩ := print_drop_of (P := Try.prog) (Value.int .u8) 0 30 5 .i64 Try.underlying30 hi08 hsz8 A0 c0 l0 x5_1 (of_decide_eq_true (by first | (with_reducible assumption) | assumption)) (of_decide_eq_true (by first | (with_reducible assumption) | assumption)) HC0.out
                have HR223 := Aside0.mk (Kd.C_of_reads (h1 := fun _ => rfl) (hA8 _ (Kd.reads_of_C HR0.out)))
                have HC223 := Aside0.mk hC8
                clear hA8 hC8 hi08 hsz8
                go_wp2_with (first | ((with_reducible refine gate_callee (f := 19) rfl ?_); refine goesL_ (some 17) rfl rfl Try.func19 (by kernel_rfl) rfl #[.slice A8 (l0.drop (x5_1 : Int).toNat).length (c0 - x5_1.toNat)] rfl (by (try simp only [List.map_toArray, List.map_cons, List.map_nil]); first | done | (rw [show (l0.drop (x5_1 : Int).toNat).length = (l0.length - x5_1.toNat) from List.length_drop] <;> rfl) | rfl | (simp only [List.length_drop, List.length_take]; rfl)) ?_; (with_reducible refine (frame_Get.calls k1 _ _ (l0.drop (x5_1 : Int).toNat) t224 t225 t226 _ ?side1 ?side2 A5.out).mono ?_); (case side1 => repeat (first | exact (Kd.C_below HR223.out HB.out) | (with_reducible refine Kd.C_alloc ?_ _) | (with_reducible refine Kd.C_drewN ?_ _) | (with_reducible refine Kd.C_drew ?_))); (case side2 => exact HC223.out); rintro e w9 ⟨v227, rfl, ho0, hb⟩; refine ⟨_, rfl, ?_⟩; have n0_ := Aside0.mk (Kd.S_elder' (by (with_reducible repeat (first | apply Kd.S_alloc | apply Kd.S_drewN | apply Kd.S_drew)); exact HO_4.out) (Kd.R_base ho0) hb); have n1_ := Aside0.mk (Kd.R_lower ho0 (below_size (by repeat (first | (with_reducible first | exact HB.out | apply below_alloc | apply pw_below_drewN | apply below_drew1) | exact HB.out)))); have n2_ := Aside0.mk (below_step (by repeat (first | (with_reducible first | exact HB.out | apply below_alloc | apply pw_below_drewN | apply below_drew1) | exact HB.out)) hb); clear HO_4; clear HB; have HO_4 := n0_; have HO228 := n1_; have HB := n2_; clear n0_ n1_ n2_; (try clear hb); (try clear hb2); (try clear hk); (try clear hi); (try clear ho0); obtain ⟨Ao11, co11, eo11⟩ := Kd.R_slice HO228.out; subst eo11) | ((with_reducible refine gate_builtin (b := .append) (xs := #[(.tmp 23), .tmp 25]) rfl ?_); at_builtin; refine Kd.S_append (Kd.slice 5 (Kd.int .u8)) (w0 := w) w.heap.size rfl (.tmp 23) (.tmp 25) 41 30 (.slice none 0 0) 24 rfl Try.underlying41 info30 rfl (by decide) (by omega) u4 x4_1 t224 [.slice Ao11 t224.length co11] (fun _ => True) (fun k_ => some k_ = (.slice Ao11 t224.length co11 : Value).ownBlock) rfl rfl ?aP (fun k_ hk_ => ((Kd.R_mono (ok' := fun k_ => ((fun _ => True)) k_ ∧ some k_ ≠ (u4 : Value).ownBlock) (Kd.R_apart' (HO228.out) (Kd.S_typed HO_4.out) (by decide)) (fun k_ hk => ⟨trivial, hk.2⟩))).1 k_ hk_.symm) ?aF ?aO ?aB ?aS ?aL ?_; (case aP => exact Kd.M_row (Kd.R_mono (Kd.R_tight rfl (Kd.R_mono (ok' := fun k_ => ((fun _ => True)) k_ ∧ some k_ ≠ (u4 : Value).ownBlock) (Kd.R_apart' (HO228.out) (Kd.S_typed HO_4.out) (by decide)) (fun k_ hk => ⟨trivial, hk.2⟩))) (fun _ h_ => h_))); (case aB => exact (by repeat (first | (with_reducible first | exact HB.out | apply below_alloc | apply pw_below_drewN | apply below_drew1) | exact HB.out))); (case aF => exact (fun _ _ => trivial)); (case aO => exact (by (with_reducible repeat (first | apply Kd.S_alloc | apply Kd.S_drewN | apply Kd.S_drew)); exact Kd.S_mono HO_4.out (fun k_ hk => ⟨trivial, fun e_ => hk.2 e_⟩))); (case aS => exact (below_size (by repeat (first | (with_reducible first | exact HB.out | apply below_alloc | apply pw_below_drewN | apply below_drew1) | exact HB.out)))); (case aL => have := LMc7.out; omega); intro v230 w10 ho hb hg hat; rw [← Ny229.out] at ho; have n0_ := Aside0.mk (hb); have n1_ := Aside0.mk (ho); clear HB; clear HO_4; clear HO228; have HB := n0_; have HO231 := n1_; clear n0_ n1_; clear ho hb hg hat))
                go_roundg k1
                case measure => have := HK1.out; omega
                case rel => exact ⟨(y229), (wrap64 (x5_1 + t225)), (by first | rfl | (simp; done) | (simp [*]; done)), H', ⟨by have := HK1.out; omega⟩, ⟨by (with_reducible repeat (first | apply Kd.S_alloc | apply Kd.S_drewN | apply Kd.S_drew)); exact HO231.out⟩, ⟨by repeat (first | (with_reducible first | exact HB.out | apply below_alloc | apply pw_below_drewN | apply below_drew1) | exact HB.out)⟩⟩
              · rw [if_neg c7] at H
                exact absurd H (by simp)
            · rw [if_neg c6] at H
              have c6b0 : (t226 == 0) = false := beq_eq_false_iff_ne.mpr c6
              have c6b1 : (t226 != 0) = true := bne_iff_ne.mpr c6
              simp only [Option.some.injEq, Prod.mk.injEq] at H
              obtain ⟨rfl, rfl⟩ := H
              obtain ⟨i012, hi012, _, hsz12, _⟩ := info_parts info5
              obtain ⟨A12, hcut12, hA12, hC12⟩ := print_drop_of (P := Try.prog) (Value.int .u8) 0 30 5 .i64 Try.underlying30 hi012 hsz12 A0 c0 l0 x5_1 (of_decide_eq_true (by first | (with_reducible assumption) | assumption)) (of_decide_eq_true (by first | (with_reducible assumption) | assumption)) HC0.out
              have HR223 := Aside0.mk (Kd.C_of_reads (h1 := fun _ => rfl) (hA12 _ (Kd.reads_of_C HR0.out)))
              have HC223 := Aside0.mk hC12
              clear hA12 hC12 hi012 hsz12
              go_wp2_with (first | ((with_reducible refine gate_callee (f := 19) rfl ?_); refine goesL_ (some 17) rfl rfl Try.func19 (by kernel_rfl) rfl #[.slice A12 (l0.drop (x5_1 : Int).toNat).length (c0 - x5_1.toNat)] rfl (by (try simp only [List.map_toArray, List.map_cons, List.map_nil]); first | done | (rw [show (l0.drop (x5_1 : Int).toNat).length = (l0.length - x5_1.toNat) from List.length_drop] <;> rfl) | rfl | (simp only [List.length_drop, List.length_take]; rfl)) ?_; (with_reducible refine (frame_Get.calls k1 _ _ (l0.drop (x5_1 : Int).toNat) t224 t225 t226 _ ?side1 ?side2 A5.out).mono ?_); (case side1 => repeat (first | exact (Kd.C_below HR223.out HB.out) | (with_reducible refine Kd.C_alloc ?_ _) | (with_reducible refine Kd.C_drewN ?_ _) | (with_reducible refine Kd.C_drew ?_))); (case side2 => exact HC223.out); rintro e w13 ⟨v227, rfl, ho0, hb⟩; refine ⟨_, rfl, ?_⟩; have n0_ := Aside0.mk (Kd.S_elder' (by (with_reducible repeat (first | apply Kd.S_alloc | apply Kd.S_drewN | apply Kd.S_drew)); exact HO_4.out) (Kd.R_base ho0) hb); have n1_ := Aside0.mk (Kd.R_lower ho0 (below_size (by repeat (first | (with_reducible first | exact HB.out | apply below_alloc | apply pw_below_drewN | apply below_drew1) | exact HB.out)))); have n2_ := Aside0.mk (below_step (by repeat (first | (with_reducible first | exact HB.out | apply below_alloc | apply pw_below_drewN | apply below_drew1) | exact HB.out)) hb); clear HO_4; clear HB; have HO_4 := n0_; have HO228 := n1_; have HB := n2_; clear n0_ n1_ n2_; (try clear hb); (try clear hb2); (try clear hk); (try clear hi); (try clear ho0)))
              go_ret2
              exact ⟨_, by first | rfl | (simp [errW_none, errW_some] <;> rfl) | (simp [*, errW_none, errW_some] <;> rfl) | (simp [errW_none, errW_some]; generalize ByteArray.toList _ = l_; cases l_ <;> rfl), by (with_reducible repeat (first | apply Kd.S_alloc | apply Kd.S_drewN | apply Kd.S_drew)); exact Kd.S_mono HO_4.out (fun _ hk => trivial), by repeat (first | (with_reducible first | exact HB.out | apply below_alloc | apply pw_below_drewN | apply below_drew1) | exact HB.out)⟩
          · rw [if_neg c4] at H
            exact absurd H (by simp)
        · rw [if_neg c3] at H
          exact absurd H (by simp)
      · rw [if_neg c2] at H
        have c2b0 : decide (x5_1 < (l0.length : Int)) = false := decide_eq_false c2
        clear c2
        simp only [Option.some.injEq, Prod.mk.injEq] at H
        obtain ⟨rfl, rfl⟩ := H
        go_wp2
        go_ret2
        exact ⟨_, by first | rfl | (simp [errW_none, errW_some] <;> rfl) | (simp [*, errW_none, errW_some] <;> rfl) | (simp [errW_none, errW_some]; generalize ByteArray.toList _ = l_; cases l_ <;> rfl), by (with_reducible repeat (first | apply Kd.S_alloc | apply Kd.S_drewN | apply Kd.S_drew)); exact HO_4.out, by repeat (first | (with_reducible first | exact HB.out | apply below_alloc | apply pw_below_drewN | apply below_drew1) | exact HB.out)⟩

end Go.Proofs.Ytpafbpfcoacidaa.F

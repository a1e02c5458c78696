-- printed by a program of this session (a changed copy of the kit's printer; squeeze.py)
import Derived.Test.YtphnolgneojdhaaVx0
import Derived.Test.YtphnolgneojdhaaVx1
namespace Go.Proofs.Ytphnolgneojdhaa.V
open Go.RowKit Go.Proofs.YtphnolgneojdhaaW.PrintWords Go.Proofs.YtphnolgneojdhaaW.PrintLast Go.Proofs.YtphnolgneojdhaaW.PrintMore
attribute [local go_sem] max2_int min2_int max_two min_two max_three min_three max_four min_four   -- for this text's walks alone
set_option linter.unusedVariables false
set_option linter.unusedSimpArgs false
/-! ### varint_Get: function 56 -/
mutual
def varint_Get.l0 : Nat → Int → List Int → Int → Int → Option (Int × Int × Int)
  | 0, _, _, _, _ => none
  | k + 1, x5, x8, x9, x10 => if x10 < x9 then (if 0 ≤ x10 then (if x10 < (x8.length : Int) then (if x10 = 9 then (varint_Get.j1 k x5 x10 (rd x8 x10) x8 x9 x10 (decide ((rd x8 x10) > 1))) else (varint_Get.j1 k x5 x10 (rd x8 x10) x8 x9 x10 false)) else (none)) else (none)) else (some (0, 0, 4))
def varint_Get.j1 : Nat → Int → Int → Int → List Int → Int → Int → Bool → Option (Int × Int × Int)
  | 0, _, _, _, _, _, _, _ => none
  | k + 1, x5, x6, x7, x8, x9, x10, x24 => if x24 = true then (some (0, 0, 3)) else (if x7 ≥ 128 then (if 0 ≤ (wrap64 (7 * x6)) then (varint_Get.l0 k (Go.bits .or .u64 x5 (shl .u64 ((x7 - 128) % 256) (wrap64 (7 * x6)))) x8 x9 (wrap64 (x10 + 1))) else (none)) else (if x7 = 0 then (if x6 > 0 then (some (0, 0, 2)) else (if 0 ≤ (wrap64 (7 * x6)) then (some (Go.bits .or .u64 x5 (shl .u64 (IntKind.u64.wrap (x7)) (wrap64 (7 * x6))), wrap64 (x6 + 1), 0)) else (none))) else (if 0 ≤ (wrap64 (7 * x6)) then (some (Go.bits .or .u64 x5 (shl .u64 (IntKind.u64.wrap (x7)) (wrap64 (7 * x6))), wrap64 (x6 + 1), 0)) else (none))))
end
def varint_Get.f (k : Nat) (l0 : List Int) : Option (Int × Int × Int) := varint_Get.l0 k 0 l0 (l0.length : Int) 0
theorem varint_Get.mono_l : ∀ k, (∀ y0 y1 y2 y3, LeO (varint_Get.l0 k y0 y1 y2 y3) (varint_Get.l0 (k + 1) y0 y1 y2 y3)) ∧ (∀ y0 y1 y2 y3 y4 y5 y6, LeO (varint_Get.j1 k y0 y1 y2 y3 y4 y5 y6) (varint_Get.j1 (k + 1) y0 y1 y2 y3 y4 y5 y6))
  | 0 => ⟨fun _ _ _ _ r h => by simp [varint_Get.l0] at h, fun _ _ _ _ _ _ _ r h => by simp [varint_Get.j1] at h⟩
  | k + 1 => by
    obtain ⟨ih0, ih1⟩ := varint_Get.mono_l k
    refine ⟨?_, ?_⟩
    · intro y0 y1 y2 y3
      unfold varint_Get.l0
      repeat' first
      | (with_reducible exact LeO.refl _)
      | (with_reducible exact LeO.none _)
      | (with_reducible refine LeO.ite ?_ ?_)
      | (with_reducible refine LeO.bind ?_ (fun _ => ?_))
      | exact ih0 _ _ _ _
      | exact ih1 _ _ _ _ _ _ _
      | exact LeO.none _
      | refine LeO.ite ?_ ?_
      | refine LeO.bind ?_ (fun _ => ?_)
    · intro y0 y1 y2 y3 y4 y5 y6
      unfold varint_Get.j1
      repeat' first
      | (with_reducible exact LeO.refl _)
      | (with_reducible exact LeO.none _)
      | (with_reducible refine LeO.ite ?_ ?_)
      | (with_reducible refine LeO.bind ?_ (fun _ => ?_))
      | exact ih0 _ _ _ _
      | exact ih1 _ _ _ _ _ _ _
      | exact LeO.none _
      | refine LeO.ite ?_ ?_
      | refine LeO.bind ?_ (fun _ => ?_)
theorem varint_Get.mono : ∀ a0 k, LeO (varint_Get.f k a0) (varint_Get.f (k + 1) a0) := by
  intro a0 k
  obtain ⟨ih0, ih1⟩ := varint_Get.mono_l k
  unfold varint_Get.f
  repeat' first
      | (with_reducible exact LeO.refl _)
      | (with_reducible exact LeO.none _)
      | (with_reducible refine LeO.ite ?_ ?_)
      | (with_reducible refine LeO.bind ?_ (fun _ => ?_))
      | exact ih0 _ _ _ _
      | exact ih1 _ _ _ _ _ _ _
      | exact LeO.none _
      | refine LeO.ite ?_ ?_
      | refine LeO.bind ?_ (fun _ => ?_)
set_option maxHeartbeats 8000000 in
set_option maxRecDepth 100000 in
theorem varint_Get.calls (k : Nat) (A0 : Option Addr) (c0 : Nat) (l0 : List Int) (r1 : Int) (r2 : Int) (r3 : Int) (w : World) (hr0 : Kd.C (Kd.int .u8) w A0 l0.length l0) (hc0 : l0.length ≤ c0) (h : varint_Get.f k l0 = some (r1, r2, r3)) :
    Calls Try.prog 56 #[.slice A0 l0.length c0] w fun e w' => e = .returned (.tuple #[.int .u64 r1, .int .i64 r2, .int .i64 r3]) ∧ Drawn0 w w' := by
  have HR0 := Aside0.mk hr0
  have HC0 := Aside0.mk hc0
  clear hr0 hc0
  have H : (varint_Get.l0 k 0 l0 (l0.length : Int) 0) = some (r1, r2, r3) := h
  clear h
  have H' := Aside0.mk H
  clear H
  go_enter Try.func56, Try.ntmps56
  go_wp2
  go_loopg [5, 10] k (fun kq v5 v10 w' => ∃ (x5_1 : Int) (x10_1 : Int), v5 = .int .u64 x5_1 ∧ v10 = .int .i64 x10_1 ∧ Aside0 (varint_Get.l0 kq x5_1 l0 (l0.length : Int) x10_1 = some (r1, r2, r3)) ∧ Aside0 (kq ≤ k) ∧ Drawn0 w w')
  case atStart => exact ⟨(0), (0), (by first | rfl | (simp; done) | (simp [*]; done)), (by first | rfl | (simp; done) | (simp [*]; done)), H', ⟨Nat.le_refl _⟩, by repeat (first | exact Drawn0.refl _ | apply Drawn0.step)⟩
  case round =>
    clear H'
    obtain ⟨x5_1, x10_1, rfl, rfl, HA, HK1, ⟨m1, rfl⟩⟩ := hrel
    cases gk with
    | zero => exact absurd HA.out (by simp [varint_Get.l0])
    | succ k1 =>
      have H := HA.out
      clear HA
      simp only [varint_Get.l0] at H
      by_cases c2 : x10_1 < (l0.length : Int)
      · rw [if_pos c2] at H
        have c2b0 : decide (x10_1 < (l0.length : Int)) = true := decide_eq_true c2
        clear c2
        by_cases c3 : 0 ≤ x10_1
        · rw [if_pos c3] at H
          have c3b0 : decide (0 ≤ x10_1) = true := decide_eq_true c3
          clear c3
          by_cases c4 : x10_1 < (l0.length : Int)
          · rw [if_pos c4] at H
            have c4b0 : decide (x10_1 < (l0.length : Int)) = true := decide_eq_true c4
            clear c4
            have HC5 := Aside0.mk H
            clear H
            have p344 : 0 ≤ (x10_1 : Int) := of_decide_eq_true (by first | (with_reducible assumption) | assumption)
            have q344 : x10_1 < (l0.length : Int) := of_decide_eq_true (by first | (with_reducible assumption) | assumption)
            obtain ⟨ad344, e344, hx344_0⟩ := Kd.at_int HR0.out x10_1 p344 q344
            cases e344
            replace p344 := eq_true p344
            replace q344 := eq_true q344
            go_upto_region 6 with (fail)
            go_cut [24] (fun v24 wc => ∃ (kq : Nat) (x24_4 : Bool), v24 = .bool x24_4 ∧ Aside0 (varint_Get.j1 kq x5_1 x10_1 (rd l0 x10_1) l0 (l0.length : Int) x10_1 x24_4 = some (r1, r2, r3)) ∧ Aside0 (kq ≤ k1) ∧ Drawn0 w wc)
            case first =>
              have H := HC5.out
              clear HC5
              by_cases c6 : x10_1 = 9
              · rw [if_pos c6] at H
                have c6b0 : (x10_1 == 9) = true := beq_iff_eq.mpr c6
                have c6b1 : (x10_1 != 9) = false := bne_eq_false_iff_eq.mpr c6
                clear c6
                (first | rw [c6b0] | (simp only [i64_w, i32_w]; rw [c6b0]) | skip)
                have H' := Aside0.mk H
                clear H
                go_wp2
                go_meet
                case rel => exact ⟨_, (decide ((rd l0 x10_1) > 1)), (by first | rfl | (simp; done) | (simp [*]; done)), H', ⟨by have := HK1.out; first | omega | exact Nat.le_refl _⟩, by repeat (first | exact Drawn0.refl _ | apply Drawn0.step)⟩
              · rw [if_neg c6] at H
                have c6b0 : (x10_1 == 9) = false := beq_eq_false_iff_ne.mpr c6
                have c6b1 : (x10_1 != 9) = true := bne_iff_ne.mpr c6
                (first | rw [c6b0] | (simp only [i64_w, i32_w]; rw [c6b0]) | skip)
                have H' := Aside0.mk H
                clear H
                go_wp2
                go_meet
                case rel => exact ⟨_, (false), (by first | rfl | (simp; done) | (simp [*]; done)), H', ⟨by have := HK1.out; first | omega | exact Nat.le_refl _⟩, by repeat (first | exact Drawn0.refl _ | apply Drawn0.step)⟩
            case rest =>
              clear HC5
              try clear c2
              try clear c2b0
              try clear p2
              try clear c3
              try clear c3b0
              try clear p3
              try clear q3
              try clear hx3
              try clear c4
              try clear c4b0
              try clear c5
              try clear c6
              try clear c6b0
              try clear c6b1
              try clear hx344_0
              try clear p344
              try clear q344
              obtain ⟨kq, x24_4, rfl, HA, HJ4, ⟨mc4, rfl⟩⟩ := hcut
              cases kq with
              | zero => exact absurd HA.out (by simp [varint_Get.j1])
              | succ kj4 =>
                have H := HA.out
                clear HA
                simp only [varint_Get.j1] at H
                by_cases c7 : x24_4 = true
                · subst c7
                  have H1 : (some (0, 0, 3)) = some (r1, r2, r3) := by rw [if_pos rfl] at H; exact H
                  clear H
                  have H := H1
                  clear H1
                  simp only [Option.some.injEq, Prod.mk.injEq] at H
                  obtain ⟨rfl, rfl, rfl⟩ := H
                  go_wp2
                  go_ret3
                  exact ⟨by first | rfl | (simp; done) | (simp [*]; done), by repeat (first | exact Drawn0.refl _ | apply Drawn0.step)⟩
                · replace c7 := Bool.eq_false_iff.mpr c7
                  subst c7
                  have H1 : (if (rd l0 x10_1) ≥ 128 then (if 0 ≤ (wrap64 (7 * x10_1)) then (varint_Get.l0 kj4 (Go.bits .or .u64 x5_1 (shl .u64 (((rd l0 x10_1) - 128) % 256) (wrap64 (7 * x10_1)))) l0 (l0.length : Int) (wrap64 (x10_1 + 1))) else (none)) else (if (rd l0 x10_1) = 0 then (if x10_1 > 0 then (some (0, 0, 2)) else (if 0 ≤ (wrap64 (7 * x10_1)) then (some (Go.bits .or .u64 x5_1 (shl .u64 (IntKind.u64.wrap ((rd l0 x10_1))) (wrap64 (7 * x10_1))), wrap64 (x10_1 + 1), 0)) else (none))) else (if 0 ≤ (wrap64 (7 * x10_1)) then (some (Go.bits .or .u64 x5_1 (shl .u64 (IntKind.u64.wrap ((rd l0 x10_1))) (wrap64 (7 * x10_1))), wrap64 (x10_1 + 1), 0)) else (none)))) = some (r1, r2, r3) := by rw [if_neg (show ¬ (false = true) by decide)] at H; exact H
                  clear H
                  have H := H1
                  clear H1
                  by_cases c8 : (rd l0 x10_1) ≥ 128
                  · rw [if_pos c8] at H
                    have c8b0 : decide (128 ≤ (rd l0 x10_1)) = true := decide_eq_true c8
                    clear c8
                    obtain ⟨ji9, hji9⟩ : ∃ j_ : Int, (wrap64 (7 * x10_1)) = j_ := ⟨_, rfl⟩
                    replace H : (if 0 ≤ (ji9) then (varint_Get.l0 kj4 (Go.bits .or .u64 x5_1 (shl .u64 (((rd l0 x10_1) - 128) % 256) (ji9))) l0 (l0.length : Int) (wrap64 (x10_1 + 1))) else (none)) = some (r1, r2, r3) := by first | (rw [hji9] at H; exact H) | (simp only [hji9] at H ⊢; exact H)
                    have hji9w : (IntKind.i64.wrap (7 * x10_1)) = ji9 := (i64_w _).trans hji9
                    by_cases c10 : 0 ≤ (ji9)
                    · rw [if_pos c10] at H
                      have c10b0 := eq_true c10
                      have c10b1 : decide (0 ≤ (ji9)) = true := decide_eq_true c10
                      clear c10
                      obtain ⟨ji11, hji11⟩ : ∃ j_ : Int, (shl .u64 (((rd l0 x10_1) - 128) % 256) (ji9)) = j_ := ⟨_, rfl⟩
                      replace H : (varint_Get.l0 kj4 (Go.bits .or .u64 x5_1 (ji11)) l0 (l0.length : Int) (wrap64 (x10_1 + 1))) = some (r1, r2, r3) := by first | (rw [hji11] at H; exact H) | (simp only [hji11] at H ⊢; exact H)
                      have hji11_ : (IntKind.u64.wrap ((((rd l0 x10_1) - 128) % 256) * 2 ^ min (ji9).toNat 64)) = ji11 := hji11
                      have hji11z : (ji9) ≤ 64 → (IntKind.u64.wrap ((((rd l0 x10_1) - 128) % 256) * 2 ^ (ji9).toNat)) = ji11 := shl_small hji11
                      have H' := Aside0.mk H
                      clear H
                      go_wp2
                      go_roundg kj4
                      case measure => have := HK1.out; have := HJ4.out; omega
                      case rel => exact ⟨(Go.bits .or .u64 x5_1 (ji11)), (wrap64 (x10_1 + 1)), (by first | rfl | (simp; done) | (simp only [← hji11] <;> (first | rfl | simp)) | (simp [*]; done)), (by first | rfl | (simp; done) | (simp [*]; done)), H', ⟨by have := HK1.out; have := HJ4.out; omega⟩, by repeat (first | exact Drawn0.refl _ | apply Drawn0.step)⟩
                    · rw [if_neg c10] at H
                      exact absurd H (by simp)
                  · rw [if_neg c8] at H
                    have c8b0 : decide (128 ≤ (rd l0 x10_1)) = false := decide_eq_false c8
                    clear c8
                    by_cases c12 : (rd l0 x10_1) = 0
                    · rw [if_pos c12] at H
                      have c12b0 : ((rd l0 x10_1) == 0) = true := beq_iff_eq.mpr c12
                      have c12b1 : ((rd l0 x10_1) != 0) = false := bne_eq_false_iff_eq.mpr c12
                      clear c12
                      by_cases c13 : x10_1 > 0
                      · rw [if_pos c13] at H
                        have c13b0 : decide (0 < x10_1) = true := decide_eq_true c13
                        clear c13
                        simp only [Option.some.injEq, Prod.mk.injEq] at H
                        obtain ⟨rfl, rfl, rfl⟩ := H
                        go_wp2
                        go_ret3
                        exact ⟨by first | rfl | (simp; done) | (simp [*]; done), by repeat (first | exact Drawn0.refl _ | apply Drawn0.step)⟩
                      · rw [if_neg c13] at H
                        have c13b0 : decide (0 < x10_1) = false := decide_eq_false c13
                        clear c13
                        obtain ⟨ji14, hji14⟩ : ∃ j_ : Int, (wrap64 (7 * x10_1)) = j_ := ⟨_, rfl⟩
                        replace H : (if 0 ≤ (ji14) then (some (Go.bits .or .u64 x5_1 (shl .u64 (IntKind.u64.wrap ((rd l0 x10_1))) (ji14)), wrap64 (x10_1 + 1), 0)) else (none)) = some (r1, r2, r3) := by first | (rw [hji14] at H; exact H) | (simp only [hji14] at H ⊢; exact H)
                        (try rw [hji14] at hji9)
                        (try rw [hji14] at hji9w)
                        have hji14w : (IntKind.i64.wrap (7 * x10_1)) = ji14 := (i64_w _).trans hji14
                        by_cases c15 : 0 ≤ (ji14)
                        · rw [if_pos c15] at H
                          have c15b0 := eq_true c15
                          have c15b1 : decide (0 ≤ (ji14)) = true := decide_eq_true c15
                          clear c15
                          obtain ⟨ji16, hji16⟩ : ∃ j_ : Int, (shl .u64 (IntKind.u64.wrap ((rd l0 x10_1))) (ji14)) = j_ := ⟨_, rfl⟩
                          replace H : (some (Go.bits .or .u64 x5_1 (ji16), wrap64 (x10_1 + 1), 0)) = some (r1, r2, r3) := by first | (rw [hji16] at H; exact H) | (simp only [hji16] at H ⊢; exact H)
                          have hji16_ : (IntKind.u64.wrap ((IntKind.u64.wrap ((rd l0 x10_1))) * 2 ^ min (ji14).toNat 64)) = ji16 := hji16
                          have hji16z : (ji14) ≤ 64 → (IntKind.u64.wrap ((IntKind.u64.wrap ((rd l0 x10_1))) * 2 ^ (ji14).toNat)) = ji16 := shl_small hji16
                          simp only [Option.some.injEq, Prod.mk.injEq] at H
                          obtain ⟨rfl, rfl, rfl⟩ := H
                          go_wp2
                          go_ret3
                          exact ⟨by first | rfl | (simp; done) | (simp only [← hji14, ← hji16] <;> (first | rfl | simp)) | (simp [*]; done), by repeat (first | exact Drawn0.refl _ | apply Drawn0.step)⟩
                        · rw [if_neg c15] at H
                          exact absurd H (by simp)
                    · rw [if_neg c12] at H
                      have c12b0 : ((rd l0 x10_1) == 0) = false := beq_eq_false_iff_ne.mpr c12
                      have c12b1 : ((rd l0 x10_1) != 0) = true := bne_iff_ne.mpr c12
                      obtain ⟨ji17, hji17⟩ : ∃ j_ : Int, (wrap64 (7 * x10_1)) = j_ := ⟨_, rfl⟩
                      replace H : (if 0 ≤ (ji17) then (some (Go.bits .or .u64 x5_1 (shl .u64 (IntKind.u64.wrap ((rd l0 x10_1))) (ji17)), wrap64 (x10_1 + 1), 0)) else (none)) = some (r1, r2, r3) := by first | (rw [hji17] at H; exact H) | (simp only [hji17] at H ⊢; exact H)
                      (try rw [hji17] at hji9)
                      (try rw [hji17] at hji9w)
                      (try rw [hji17] at hji14)
                      (try rw [hji17] at hji14w)
                      have hji17w : (IntKind.i64.wrap (7 * x10_1)) = ji17 := (i64_w _).trans hji17
                      by_cases c18 : 0 ≤ (ji17)
                      · rw [if_pos c18] at H
                        have c18b0 := eq_true c18
                        have c18b1 : decide (0 ≤ (ji17)) = true := decide_eq_true c18
                        clear c18
                        obtain ⟨ji19, hji19⟩ : ∃ j_ : Int, (shl .u64 (IntKind.u64.wrap ((rd l0 x10_1))) (ji17)) = j_ := ⟨_, rfl⟩
                        replace H : (some (Go.bits .or .u64 x5_1 (ji19), wrap64 (x10_1 + 1), 0)) = some (r1, r2, r3) := by first | (rw [hji19] at H; exact H) | (simp only [hji19] at H ⊢; exact H)
                        have hji19_ : (IntKind.u64.wrap ((IntKind.u64.wrap ((rd l0 x10_1))) * 2 ^ min (ji17).toNat 64)) = ji19 := hji19
                        have hji19z : (ji17) ≤ 64 → (IntKind.u64.wrap ((IntKind.u64.wrap ((rd l0 x10_1))) * 2 ^ (ji17).toNat)) = ji19 := shl_small hji19
                        simp only [Option.some.injEq, Prod.mk.injEq] at H
                        obtain ⟨rfl, rfl, rfl⟩ := H
                        go_wp2
                        go_ret3
                        exact ⟨by first | rfl | (simp; done) | (simp only [← hji17, ← hji19] <;> (first | rfl | simp)) | (simp [*]; done), by repeat (first | exact Drawn0.refl _ | apply Drawn0.step)⟩
                      · rw [if_neg c18] at H
                        exact absurd H (by simp)
          · rw [if_neg c4] at H
            exact absurd H (by simp)
        · rw [if_neg c3] at H
          exact absurd H (by simp)
      · rw [if_neg c2] at H
        have c2b0 : decide (x10_1 < (l0.length : Int)) = false := decide_eq_false c2
        clear c2
        simp only [Option.some.injEq, Prod.mk.injEq] at H
        obtain ⟨rfl, rfl, rfl⟩ := H
        go_wp2
        go_ret3
        exact ⟨by first | rfl | (simp; done) | (simp [*]; done), by repeat (first | exact Drawn0.refl _ | apply Drawn0.step)⟩

/-! ### bytes_Equal: function 57 -/
def bytes_Equal.f (l0 : List Int) (l1 : List Int) : Option (Bool) := some ((strOfNums l0).toList == (strOfNums l1).toList)
set_option maxHeartbeats 8000000 in
set_option maxRecDepth 100000 in
theorem bytes_Equal.calls (A0 : Option Addr) (c0 : Nat) (l0 : List Int) (A1 : Option Addr) (c1 : Nat) (l1 : List Int) (r : Bool) (w : World) (hr0 : Kd.C (Kd.int .u8) w A0 l0.length l0) (hc0 : l0.length ≤ c0) (hr1 : Kd.C (Kd.int .u8) w A1 l1.length l1) (hc1 : l1.length ≤ c1) (h : bytes_Equal.f l0 l1 = some r) :
    Calls Try.prog 57 #[.slice A0 l0.length c0, .slice A1 l1.length c1] w fun e w' => e = .returned (.bool r) ∧ Drawn0 w w' := by
  have HR0 := Aside0.mk hr0
  have HC0 := Aside0.mk hc0
  clear hr0 hc0
  have HR1 := Aside0.mk hr1
  have HC1 := Aside0.mk hc1
  clear hr1 hc1
  have H : (some ((strOfNums l0).toList == (strOfNums l1).toList)) = some r := h
  clear h
  obtain rfl := Option.some.inj H
  have hcv3 := Kd.C_string (P := Try.prog) (A := A0) (c := c0) Try.underlying37 Try.underlying5 Try.underlying9 HR0.out
  have hcn3 := fun (n_ : Nat) => Kd.C_string (P := Try.prog) (A := A0) (c := c0) Try.underlying37 Try.underlying5 Try.underlying9 (Kd.C_drewN HR0.out n_)
  have hcv4 := Kd.C_string (P := Try.prog) (A := A1) (c := c1) Try.underlying37 Try.underlying5 Try.underlying9 HR1.out
  have hcn4 := fun (n_ : Nat) => Kd.C_string (P := Try.prog) (A := A1) (c := c1) Try.underlying37 Try.underlying5 Try.underlying9 (Kd.C_drewN HR1.out n_)
  go_enter Try.func57, Try.ntmps57
  go_wp2
  go_ret
  exact ⟨by first | rfl | (simp; done) | (simp [*]; done), by repeat (first | exact Drawn0.refl _ | apply Drawn0.step)⟩
/-! ### frame_Get: function 39 -/
def frame_Get.f (k : Nat) (l0 : List Int) : Option (List Int × Int × Int) := (varint_Get.f k l0).bind fun bt345 => (if bt345.2.2 = 0 then (if bt345.1 > 16777216 then (some (([] : List Int), 0, 3)) else (if (wrap64 ((l0.length : Int) - bt345.2.1)) < (wrap64 (4 + (wrap64 (bt345.1)))) then (some (([] : List Int), 0, 4)) else (if 0 ≤ (wrap64 (bt345.2.1 + 4)) then (if (wrap64 (bt345.2.1 + 4)) ≤ (wrap64 ((wrap64 (bt345.2.1 + 4)) + (wrap64 (bt345.1)))) then (if (wrap64 ((wrap64 (bt345.2.1 + 4)) + (wrap64 (bt345.1)))) ≤ (l0.length : Int) then (if ([] : List Int).length + ((l0.take ((wrap64 ((wrap64 (bt345.2.1 + 4)) + (wrap64 (bt345.1)))) : Int).toNat).drop ((wrap64 (bt345.2.1 + 4)) : Int).toNat).length < 140737488355328 then ((some (([] : List Int) ++ ((l0.take ((wrap64 ((wrap64 (bt345.2.1 + 4)) + (wrap64 (bt345.1)))) : Int).toNat).drop ((wrap64 (bt345.2.1 + 4)) : Int).toNat) : List Int)).bind fun y349 => (if 0 ≤ bt345.2.1 then (if bt345.2.1 ≤ (wrap64 (bt345.2.1 + 4)) then (if (wrap64 (bt345.2.1 + 4)) ≤ (l0.length : Int) then ((crc_Sum.f k y349).bind fun t353 => ((frame_written.f t353).bind fun t354 => ((bytes_Equal.f ((l0.take ((wrap64 (bt345.2.1 + 4)) : Int).toNat).drop (bt345.2.1 : Int).toNat) t354).bind fun t357 => (if t357 = true then (some (y349, wrap64 ((wrap64 (bt345.2.1 + 4)) + (wrap64 (bt345.1))), 0)) else (some (([] : List Int), 0, 5)))))) else (none)) else (none)) else (none))) else (none)) else (none)) else (none)) else (none)))) else (some (([] : List Int), 0, bt345.2.2)))
theorem frame_Get.mono : ∀ a0 k, LeO (frame_Get.f k a0) (frame_Get.f (k + 1) a0) := by
  intro a0 k
  unfold frame_Get.f
  repeat' first
      | (with_reducible exact LeO.refl _)
      | (with_reducible exact LeO.none _)
      | (with_reducible refine LeO.ite ?_ ?_)
      | (with_reducible refine LeO.bind ?_ (fun _ => ?_))
      | exact crc_Sum.mono _ _
      | exact varint_Get.mono _ _
      | exact LeO.none _
      | refine LeO.ite ?_ ?_
      | refine LeO.bind ?_ (fun _ => ?_)
def frame_Get.T11 : Bool × List (List Nat × List Nat) := (true, [([], []), ([], []), ([], []), ([0, 1, 2], [0, 1, 2]), ([], []), ([4], [4]), ([5, 5], [5]), ([3, 6, 6], [3, 6]), ([7], [7])])
def frame_Get.B11 : List Nat := [0, 0, 0, 7, 0, 16, 48, 127, 255]
theorem frame_Get.tab11 : rtab .any (opsOf Try.f39 11) = frame_Get.T11 := by kernel_rfl
theorem frame_Get.bits11 : waitsOk frame_Get.T11.2 frame_Get.B11 = true := by kernel_rfl
set_option maxHeartbeats 8000000 in
set_option maxRecDepth 100000 in
theorem frame_Get.calls (k : Nat) (A0 : Option Addr) (c0 : Nat) (l0 : List Int) (r1 : List Int) (r2 : Int) (r3 : Int) (w : World) (hr0 : Kd.C (Kd.int .u8) w A0 l0.length l0) (hc0 : l0.length ≤ c0) (h : frame_Get.f k l0 = some (r1, r2, r3)) :
    Calls Try.prog 39 #[.slice A0 l0.length c0] w fun e w' => ∃ v0_ : Value, e = .returned (.tuple #[v0_, .int .i64 r2, .int .i64 r3]) ∧ Kd.R (Kd.int .u8) 5 w' w.heap.size (fun _ => True) v0_ r1 ∧ Below w.heap.size w w' := by
  have HR0 := Aside0.mk hr0
  have HC0 := Aside0.mk hc0
  clear hr0 hc0
  have HB := Aside0.mk (Below.refl w.heap.size w)
  have H : ((varint_Get.f k l0).bind fun bt345 => (if bt345.2.2 = 0 then (if bt345.1 > 16777216 then (some (([] : List Int), 0, 3)) else (if (wrap64 ((l0.length : Int) - bt345.2.1)) < (wrap64 (4 + (wrap64 (bt345.1)))) then (some (([] : List Int), 0, 4)) else (if 0 ≤ (wrap64 (bt345.2.1 + 4)) then (if (wrap64 (bt345.2.1 + 4)) ≤ (wrap64 ((wrap64 (bt345.2.1 + 4)) + (wrap64 (bt345.1)))) then (if (wrap64 ((wrap64 (bt345.2.1 + 4)) + (wrap64 (bt345.1)))) ≤ (l0.length : Int) then (if ([] : List Int).length + ((l0.take ((wrap64 ((wrap64 (bt345.2.1 + 4)) + (wrap64 (bt345.1)))) : Int).toNat).drop ((wrap64 (bt345.2.1 + 4)) : Int).toNat).length < 140737488355328 then ((some (([] : List Int) ++ ((l0.take ((wrap64 ((wrap64 (bt345.2.1 + 4)) + (wrap64 (bt345.1)))) : Int).toNat).drop ((wrap64 (bt345.2.1 + 4)) : Int).toNat) : List Int)).bind fun y349 => (if 0 ≤ bt345.2.1 then (if bt345.2.1 ≤ (wrap64 (bt345.2.1 + 4)) then (if (wrap64 (bt345.2.1 + 4)) ≤ (l0.length : Int) then ((crc_Sum.f k y349).bind fun t353 => ((frame_written.f t353).bind fun t354 => ((bytes_Equal.f ((l0.take ((wrap64 (bt345.2.1 + 4)) : Int).toNat).drop (bt345.2.1 : Int).toNat) t354).bind fun t357 => (if t357 = true then (some (y349, wrap64 ((wrap64 (bt345.2.1 + 4)) + (wrap64 (bt345.1))), 0)) else (some (([] : List Int), 0, 5)))))) else (none)) else (none)) else (none))) else (none)) else (none)) else (none)) else (none)))) else (some (([] : List Int), 0, bt345.2.2)))) = some (r1, r2, r3) := h
  clear h
  replace H := Option.bind_eq_some_iff.mp H
  obtain ⟨⟨t345, t346, t347⟩, A20, H⟩ := H
  replace H : (if t347 = 0 then (if t345 > 16777216 then (some (([] : List Int), 0, 3)) else (if (wrap64 ((l0.length : Int) - t346)) < (wrap64 (4 + (wrap64 (t345)))) then (some (([] : List Int), 0, 4)) else (if 0 ≤ (wrap64 (t346 + 4)) then (if (wrap64 (t346 + 4)) ≤ (wrap64 ((wrap64 (t346 + 4)) + (wrap64 (t345)))) then (if (wrap64 ((wrap64 (t346 + 4)) + (wrap64 (t345)))) ≤ (l0.length : Int) then (if ([] : List Int).length + ((l0.take ((wrap64 ((wrap64 (t346 + 4)) + (wrap64 (t345)))) : Int).toNat).drop ((wrap64 (t346 + 4)) : Int).toNat).length < 140737488355328 then ((some (([] : List Int) ++ ((l0.take ((wrap64 ((wrap64 (t346 + 4)) + (wrap64 (t345)))) : Int).toNat).drop ((wrap64 (t346 + 4)) : Int).toNat) : List Int)).bind fun y349 => (if 0 ≤ t346 then (if t346 ≤ (wrap64 (t346 + 4)) then (if (wrap64 (t346 + 4)) ≤ (l0.length : Int) then ((crc_Sum.f k y349).bind fun t353 => ((frame_written.f t353).bind fun t354 => ((bytes_Equal.f ((l0.take ((wrap64 (t346 + 4)) : Int).toNat).drop (t346 : Int).toNat) t354).bind fun t357 => (if t357 = true then (some (y349, wrap64 ((wrap64 (t346 + 4)) + (wrap64 (t345))), 0)) else (some (([] : List Int), 0, 5)))))) else (none)) else (none)) else (none))) else (none)) else (none)) else (none)) else (none)))) else (some (([] : List Int), 0, t347))) = some (r1, r2, r3) := H
  have A2 := Aside0.mk A20
  clear A20
  by_cases c3 : t347 = 0
  · rw [if_pos c3] at H
    have c3b0 : (t347 == 0) = true := beq_iff_eq.mpr c3
    have c3b1 : (t347 != 0) = false := bne_eq_false_iff_eq.mpr c3
    clear c3
    by_cases c4 : t345 > 16777216
    · rw [if_pos c4] at H
      have c4b0 : decide (16777216 < t345) = true := decide_eq_true c4
      clear c4
      simp only [Option.some.injEq, Prod.mk.injEq] at H
      obtain ⟨rfl, rfl, rfl⟩ := H
      go_enter Try.func39, Try.ntmps39
      go_wp2_with (first | ((with_reducible refine gate_callee (f := 56) rfl ?_); refine goesL_ (some 13) rfl rfl Try.func56 (by kernel_rfl) rfl #[.slice A0 l0.length c0] rfl (by (try simp only [List.map_toArray, List.map_cons, List.map_nil]); first | done | rfl | (simp only [List.length_drop, List.length_take]; rfl)) ?_; (with_reducible refine (varint_Get.calls k _ _ l0 t345 t346 t347 _ ?side1 ?side2 A2.out).mono ?_); (case side1 => repeat (first | exact HR0.out | (with_reducible refine Kd.C_alloc ?_ _) | (with_reducible refine Kd.C_drewN ?_ _) | (with_reducible refine Kd.C_drew ?_))); (case side2 => exact HC0.out); rintro e w' ⟨rfl, ⟨nd, rfl⟩⟩; refine ⟨_, rfl, ?_⟩))
      go_ret3
      exact ⟨_, by first | rfl | (simp [*, eN, eS] <;> rfl) | (simp [eN, eS]; generalize ByteArray.toList _ = l_; cases l_ <;> rfl), by first | exact Kd.R_nil _ _ _ _ _ | exact Kd.N_nil _ _ _ _ _ | exact Kd.V_nil _ _ _ _ _ | exact Kd.Q_nil _ _ _ _ _ | exact Kd.S_nil _ _ _ _ _, by repeat (first | (with_reducible first | exact HB.out | apply vA | apply vN | apply vD) | exact HB.out)⟩
    · rw [if_neg c4] at H
      have c4b0 : decide (16777216 < t345) = false := decide_eq_false c4
      clear c4
      by_cases c5 : (wrap64 ((l0.length : Int) - t346)) < (wrap64 (4 + (wrap64 (t345))))
      · rw [if_pos c5] at H
        have c5b0 : decide ((wrap64 ((l0.length : Int) - t346)) < (wrap64 (4 + (wrap64 (t345))))) = true := decide_eq_true c5
        clear c5
        simp only [Option.some.injEq, Prod.mk.injEq] at H
        obtain ⟨rfl, rfl, rfl⟩ := H
        go_enter Try.func39, Try.ntmps39
        go_wp2_with (first | ((with_reducible refine gate_callee (f := 56) rfl ?_); refine goesL_ (some 13) rfl rfl Try.func56 (by kernel_rfl) rfl #[.slice A0 l0.length c0] rfl (by (try simp only [List.map_toArray, List.map_cons, List.map_nil]); first | done | rfl | (simp only [List.length_drop, List.length_take]; rfl)) ?_; (with_reducible refine (varint_Get.calls k _ _ l0 t345 t346 t347 _ ?side1 ?side2 A2.out).mono ?_); (case side1 => repeat (first | exact HR0.out | (with_reducible refine Kd.C_alloc ?_ _) | (with_reducible refine Kd.C_drewN ?_ _) | (with_reducible refine Kd.C_drew ?_))); (case side2 => exact HC0.out); rintro e w' ⟨rfl, ⟨nd, rfl⟩⟩; refine ⟨_, rfl, ?_⟩))
        go_ret3
        exact ⟨_, by first | rfl | (simp [*, eN, eS] <;> rfl) | (simp [eN, eS]; generalize ByteArray.toList _ = l_; cases l_ <;> rfl), by first | exact Kd.R_nil _ _ _ _ _ | exact Kd.N_nil _ _ _ _ _ | exact Kd.V_nil _ _ _ _ _ | exact Kd.Q_nil _ _ _ _ _ | exact Kd.S_nil _ _ _ _ _, by repeat (first | (with_reducible first | exact HB.out | apply vA | apply vN | apply vD) | exact HB.out)⟩
      · rw [if_neg c5] at H
        have c5b0 : decide ((wrap64 ((l0.length : Int) - t346)) < (wrap64 (4 + (wrap64 (t345))))) = false := decide_eq_false c5
        clear c5
        obtain ⟨ji6, hji6⟩ : ∃ j_ : Int, (wrap64 (t346 + 4)) = j_ := ⟨_, rfl⟩
        replace H : (if 0 ≤ (ji6) then (if (ji6) ≤ (wrap64 ((ji6) + (wrap64 (t345)))) then (if (wrap64 ((ji6) + (wrap64 (t345)))) ≤ (l0.length : Int) then (if ([] : List Int).length + ((l0.take ((wrap64 ((ji6) + (wrap64 (t345)))) : Int).toNat).drop ((ji6) : Int).toNat).length < 140737488355328 then ((some (([] : List Int) ++ ((l0.take ((wrap64 ((ji6) + (wrap64 (t345)))) : Int).toNat).drop ((ji6) : Int).toNat) : List Int)).bind fun y349 => (if 0 ≤ t346 then (if t346 ≤ (ji6) then (if (ji6) ≤ (l0.length : Int) then ((crc_Sum.f k y349).bind fun t353 => ((frame_written.f t353).bind fun t354 => ((bytes_Equal.f ((l0.take ((ji6) : Int).toNat).drop (t346 : Int).toNat) t354).bind fun t357 => (if t357 = true then (some (y349, wrap64 ((ji6) + (wrap64 (t345))), 0)) else (some (([] : List Int), 0, 5)))))) else (none)) else (none)) else (none))) else (none)) else (none)) else (none)) else (none)) = some (r1, r2, r3) := by first | (rw [hji6] at H; exact H) | (simp only [hji6] at H ⊢; exact H)
        (try rw [hji6] at A2)
        have hji6w : (IntKind.i64.wrap (t346 + 4)) = ji6 := (i64_w _).trans hji6
        by_cases c7 : 0 ≤ (ji6)
        · rw [if_pos c7] at H
          have c7b0 := eq_true c7
          have c7b1 : decide (0 ≤ (ji6)) = true := decide_eq_true c7
          clear c7
          by_cases c8 : (ji6) ≤ (wrap64 ((ji6) + (wrap64 (t345))))
          · rw [if_pos c8] at H
            have c8b0 := eq_true c8
            have c8b1 : decide ((ji6) ≤ (wrap64 ((ji6) + (wrap64 (t345))))) = true := decide_eq_true c8
            by_cases c9 : (wrap64 ((ji6) + (wrap64 (t345)))) ≤ (l0.length : Int)
            · rw [if_pos c9] at H
              have c9b0 := eq_true c9
              have c9b1 : decide ((wrap64 ((ji6) + (wrap64 (t345)))) ≤ (l0.length : Int)) = true := decide_eq_true c9
              by_cases c10 : ([] : List Int).length + ((l0.take ((wrap64 ((ji6) + (wrap64 (t345)))) : Int).toNat).drop ((ji6) : Int).toNat).length < 140737488355328
              · rw [if_pos c10] at H
                have LMc10 := Aside0.mk c10
                clear c10
                obtain ⟨y349, hy349⟩ : ∃ y_ : List Int, y_ = (([] : List Int) ++ ((l0.take ((wrap64 ((ji6) + (wrap64 (t345)))) : Int).toNat).drop ((ji6) : Int).toNat)) := ⟨_, rfl⟩
                replace H : (if 0 ≤ t346 then (if t346 ≤ (ji6) then (if (ji6) ≤ (l0.length : Int) then ((crc_Sum.f k y349).bind fun t353 => ((frame_written.f t353).bind fun t354 => ((bytes_Equal.f ((l0.take ((ji6) : Int).toNat).drop (t346 : Int).toNat) t354).bind fun t357 => (if t357 = true then (some (y349, wrap64 ((ji6) + (wrap64 (t345))), 0)) else (some (([] : List Int), 0, 5)))))) else (none)) else (none)) else (none)) = some (r1, r2, r3) := by first | (rw [hy349]; with_reducible exact H) | (have H2_ := (Option.bind_some _ _).symm.trans H; rw [hy349]; with_reducible exact H2_) | (have H2_ := (Option.bind_some _ _).symm.trans H; with_reducible exact H2_) | with_reducible exact H | (rw [hy349]; exact H) | exact H
                have Ny349 := Aside0.mk hy349
                clear hy349
                by_cases c11 : 0 ≤ t346
                · rw [if_pos c11] at H
                  have c11b0 := eq_true c11
                  have c11b1 : decide (0 ≤ t346) = true := decide_eq_true c11
                  clear c11
                  by_cases c12 : t346 ≤ (ji6)
                  · rw [if_pos c12] at H
                    have c12b0 := eq_true c12
                    have c12b1 : decide (t346 ≤ (ji6)) = true := decide_eq_true c12
                    clear c12
                    by_cases c13 : (ji6) ≤ (l0.length : Int)
                    · rw [if_pos c13] at H
                      have c13b0 := eq_true c13
                      have c13b1 : decide ((ji6) ≤ (l0.length : Int)) = true := decide_eq_true c13
                      clear c13
                      replace H := Option.bind_eq_some_iff.mp H
                      obtain ⟨t353, A140, H⟩ := H
                      replace H : ((frame_written.f t353).bind fun t354 => ((bytes_Equal.f ((l0.take ((ji6) : Int).toNat).drop (t346 : Int).toNat) t354).bind fun t357 => (if t357 = true then (some (y349, wrap64 ((ji6) + (wrap64 (t345))), 0)) else (some (([] : List Int), 0, 5))))) = some (r1, r2, r3) := H
                      have A14 := Aside0.mk A140
                      clear A140
                      replace H := Option.bind_eq_some_iff.mp H
                      obtain ⟨t354, A150, H⟩ := H
                      replace H : ((bytes_Equal.f ((l0.take ((ji6) : Int).toNat).drop (t346 : Int).toNat) t354).bind fun t357 => (if t357 = true then (some (y349, wrap64 ((ji6) + (wrap64 (t345))), 0)) else (some (([] : List Int), 0, 5)))) = some (r1, r2, r3) := H
                      have A15 := Aside0.mk A150
                      clear A150
                      replace H := Option.bind_eq_some_iff.mp H
                      obtain ⟨t357, A160, H⟩ := H
                      replace H : (if t357 = true then (some (y349, wrap64 ((ji6) + (wrap64 (t345))), 0)) else (some (([] : List Int), 0, 5))) = some (r1, r2, r3) := H
                      have A16 := Aside0.mk A160
                      clear A160
                      by_cases c17 : t357 = true
                      · subst c17
                        have H1 : (some (y349, wrap64 ((ji6) + (wrap64 (t345))), 0)) = some (r1, r2, r3) := by rw [if_pos rfl] at H; exact H
                        clear H
                        have H := H1
                        clear H1
                        simp only [Option.some.injEq, Prod.mk.injEq] at H
                        obtain ⟨rfl, rfl, rfl⟩ := H
                        go_enter Try.func39, Try.ntmps39
                        try go_wp2_with (first | ((with_reducible refine gate_callee (f := 56) rfl ?_); refine goesL_ (some 13) rfl rfl Try.func56 (by kernel_rfl) rfl #[.slice A0 l0.length c0] rfl (by (try simp only [List.map_toArray, List.map_cons, List.map_nil]); first | done | rfl | (simp only [List.length_drop, List.length_take]; rfl)) ?_; (with_reducible refine (varint_Get.calls k _ _ l0 t345 t346 t347 _ ?side1 ?side2 A2.out).mono ?_); (case side1 => repeat (first | exact HR0.out | (with_reducible refine Kd.C_alloc ?_ _) | (with_reducible refine Kd.C_drewN ?_ _) | (with_reducible refine Kd.C_drew ?_))); (case side2 => exact HC0.out); rintro e w' ⟨rfl, ⟨nd, rfl⟩⟩; refine ⟨_, rfl, ?_⟩; obtain ⟨i018, hi018, _, hsz18, _⟩ := info_parts info5; obtain ⟨A18, hcut18, hA18, hC18⟩ := print_mid_of (P := Try.prog) (Value.int .u8) 0 37 5 .i64 .i64 Try.underlying37 hi018 hsz18 A0 c0 l0 (ji6) (wrap64 ((ji6) + (wrap64 (t345)))) (of_decide_eq_true (by first | (with_reducible assumption) | assumption)) (by first | omega | exact of_decide_eq_true (by first | (with_reducible assumption) | assumption)) (of_decide_eq_true (by first | (with_reducible assumption) | assumption)) HC0.out; have HR348 := Aside0.mk (Kd.C_of_reads (h1 := fun _ => rfl) (hA18 _ (Kd.reads_of_C HR0.out))); have HC348 := Aside0.mk hC18; clear hA18 hC18 hi018 hsz18) | ((with_reducible refine gate_builtin (b := .append) (xs := #[(.const (.slice none 0 0)), .tmp 42]) rfl ?_); at_builtin; refine Kd.R_append_rows (Kd.int .u8) (w0 := w) w.heap.size rfl (.const (.slice none 0 0)) (.tmp 42) 37 5 (.int .u8 0) 1 rfl Try.underlying37 info5 rfl (by decide) (by omega) (.slice none 0 0) ([] : List Int) ((l0.take ((wrap64 ((ji6) + (wrap64 (t345)))) : Int).toNat).drop ((ji6) : Int).toNat) _ _ _ (fun _ => True) (fun _ => False) rfl rfl ?aO ?aR (fun _ _ h => h) (fun _ h => h.elim) ?aF ?aB ?aS ?aL ?_; (case aR => first | (rw [← show ((l0.take ((wrap64 ((ji6) + (wrap64 (t345)))) : Int).toNat).drop ((ji6) : Int).toNat).length = ((wrap64 ((ji6) + (wrap64 (t345)))).toNat - (ji6).toNat) from (by rw [List.length_drop, List.length_take]; have h_ : ((wrap64 ((ji6) + (wrap64 (t345)))) : Int) ≤ (l0.length : Int) := of_decide_eq_true (by first | (with_reducible assumption) | assumption); omega)]; repeat (first | exact HR348.out | (with_reducible refine Kd.C_alloc ?_ _) | (with_reducible refine Kd.C_drewN ?_ _) | (with_reducible refine Kd.C_drew ?_))) | (repeat (first | exact HR348.out | (with_reducible refine Kd.C_alloc ?_ _) | (with_reducible refine Kd.C_drewN ?_ _) | (with_reducible refine Kd.C_drew ?_)))); (case aB => exact (by repeat (first | (with_reducible first | exact HB.out | apply vA | apply vN | apply vD) | exact HB.out))); (case aF => exact (fun _ _ => trivial)); (case aO => exact ((Kd.R_nil _ _ _ _ (fun _ => True)))); (case aS => exact (vZ (by repeat (first | (with_reducible first | exact HB.out | apply vA | apply vN | apply vD) | exact HB.out)))); (case aL => have := LMc10.out; have hlx_ := (show ((l0.take ((wrap64 ((ji6) + (wrap64 (t345)))) : Int).toNat).drop ((ji6) : Int).toNat).length = ((wrap64 ((ji6) + (wrap64 (t345)))).toNat - (ji6).toNat) from (by rw [List.length_drop, List.length_take]; have h_ : ((wrap64 ((ji6) + (wrap64 (t345)))) : Int) ≤ (l0.length : Int) := of_decide_eq_true (by first | (with_reducible assumption) | assumption); omega)); omega); intro v350 w19 ho hb hg hat; rw [← Ny349.out] at ho; have n0_ := Aside0.mk (hb); have n1_ := Aside0.mk (ho); clear HB; have HB := n0_; have HO351 := n1_; clear n0_ n1_; clear ho hb hg hat))
                        have n0_ := Aside0.mk (Kd.RD HO351.out)
                        have n1_ := Aside0.mk (vD HB.out)
                        clear HO351
                        clear HB
                        have HO351 := n0_
                        have HB := n1_
                        clear n0_ n1_
                        obtain ⟨i021, hi021, _, hsz21, _⟩ := info_parts info5
                        obtain ⟨A21, hcut21, hA21, hC21⟩ := print_mid_of (P := Try.prog) (Value.int .u8) 0 37 5 .i64 .i64 Try.underlying37 hi021 hsz21 A0 c0 l0 t346 (ji6) (of_decide_eq_true (by first | (with_reducible assumption) | assumption)) (by first | omega | exact of_decide_eq_true (by first | (with_reducible assumption) | assumption)) (of_decide_eq_true (by first | (with_reducible assumption) | assumption)) HC0.out
                        have HR352 := Aside0.mk (Kd.C_of_reads (h1 := fun _ => rfl) (hA21 _ (Kd.reads_of_C HR0.out)))
                        have HC352 := Aside0.mk hC21
                        clear hA21 hC21 hi021 hsz21
                        obtain ⟨Ao22, co22, eo22⟩ := Kd.R_slice HO351.out
                        (first | subst eo22 | (injection eo22 with f1_ f2_ f3_; have f4_ := f1_.symm; have f5_ := f3_.symm; clear f1_ f2_ f3_; subst f4_; subst f5_))
                        refine start_ (n := 9) (S := fun w' => True) (ds := []) #[false, false, false, false, false, false, false, false, false] (by kernel_rfl) rfl rfl trivial (fun hHeld => ?_); refine with_tabW frame_Get.tab11 frame_Get.bits11 (fun HT_ HW_ => ?_)
                        generalize w19.drew = w20 at HO351 HB HR352 hHeld ⊢
                        refine pure_ (i := 0) (N := some 44) (v := ?_) (a' := ?_) #[true, false, false, false, false, false, false, false, false] rfl rfl (any_of HT_.out (by kernel_rfl)) (fun _ _ _ h => h) (Or.inl ⟨by rfl, ?_⟩) ?_ ?_
                        rotate_left
                        · intro w'
                          go_simp
                          with_reducible rfl
                        rotate_left
                        · simp only [Act.put, List.setIfInBounds_toArray, List.set_cons_zero, List.set_cons_succ, i64_w, i32_w]
                          rfl
                        refine pure_ (i := 1) (N := some 45) (v := ?_) (a' := ?_) #[true, true, false, false, false, false, false, false, false] rfl rfl (any_of HT_.out (by kernel_rfl)) (fun _ _ _ h => h) (Or.inl ⟨by rfl, ?_⟩) ?_ ?_
                        rotate_left
                        · intro w'
                          go_simp
                          with_reducible rfl
                        rotate_left
                        · simp only [Act.put, List.setIfInBounds_toArray, List.set_cons_zero, List.set_cons_succ, i64_w, i32_w]
                          rfl
                        refine pure_ (i := 2) (N := some 46) (v := ?_) (a' := ?_) #[true, true, true, false, false, false, false, false, false] rfl rfl (any_of HT_.out (by kernel_rfl)) (fun _ _ _ h => h) (Or.inl ⟨by rfl, ?_⟩) ?_ ?_
                        rotate_left
                        · intro w'
                          go_simp
                          with_reducible rfl
                        rotate_left
                        · simp only [Act.put, List.setIfInBounds_toArray, List.set_cons_zero, List.set_cons_succ, i64_w, i32_w]
                          rfl
                        refine pure_ (i := 3) (N := some 47) (v := ?_) (a' := ?_) #[true, true, true, true, false, false, false, false, false] rfl rfl (any_of HT_.out (by kernel_rfl)) (fun _ _ _ h => h) (Or.inl ⟨by rfl, ?_⟩) ?_ ?_
                        rotate_left
                        · intro w'
                          go_simp
                          with_reducible rfl
                        rotate_left
                        · simp only [Act.put, List.setIfInBounds_toArray, List.set_cons_zero, List.set_cons_succ, i64_w, i32_w]
                          rfl
                        refine pure_ (i := 4) (N := some 48) (v := ?_) (a' := ?_) #[true, true, true, true, true, false, false, false, false] rfl rfl (any_of HT_.out (by kernel_rfl)) (fun _ _ _ h => h) (Or.inl ⟨by rfl, ?_⟩) ?_ ?_
                        rotate_left
                        · intro w'
                          go_simp
                          with_reducible rfl
                        rotate_left
                        · simp only [Act.put, List.setIfInBounds_toArray, List.set_cons_zero, List.set_cons_succ, i64_w, i32_w]
                          rfl
                        refine one_ (i := 5) (N := some 49) #[true, true, true, true, true, true, false, false, false] rfl rfl (one_of HT_.out (by kernel_rfl)) (by decide) (fun K hK => ?_)
                        refine goes_ Try.func59 (by kernel_rfl) rfl #[.slice Ao22 y349.length co22] (by rfl) rfl rfl (by (try simp only [List.map_toArray, List.map_cons, List.map_nil]); first | done | rfl | (simp only [List.length_drop, List.length_take]; rfl)) ?_
                        with_reducible refine (crc_Sum.calls k _ _ y349 t353 _ ?side1 ?side2 A14.out).mono ?_
                        (case side1 => repeat (first | exact (Kd.R_reads' HO351.out).2.2 | (with_reducible refine Kd.C_alloc ?_ _) | (with_reducible refine Kd.C_drewN ?_ _) | (with_reducible refine Kd.C_drew ?_)))
                        (case side2 => exact (Kd.R_reads' HO351.out).2.1)
                        rintro e w' ⟨rfl, ⟨nd, rfl⟩⟩
                        refine ⟨_, rfl, ?_⟩
                        refine hK.out _ _ trivial (fun hHeld => ?_)
                        clear hK K
                        refine norm_ (a' := ?_) ?_ ?_
                        rotate_left
                        · show Act.put _ (some 49) _ = _
                          simp only [Act.put, List.setIfInBounds_toArray, List.set_cons_zero, List.set_cons_succ, i64_w, i32_w]
                          rfl
                        refine one_ (i := 6) (N := some 50) #[true, true, true, true, true, true, true, false, false] rfl rfl (one_of HT_.out (by kernel_rfl)) (by decide) (fun K hK => ?_)
                        refine goes_ Try.func58 (by kernel_rfl) rfl #[.int .u32 t353] (by rfl) rfl rfl (by (try simp only [List.map_toArray, List.map_cons, List.map_nil]); first | done | rfl | (simp only [List.length_drop, List.length_take]; rfl)) ?_
                        with_reducible refine (frame_written.calls t353 t354 _ A15.out).mono ?_
                        rintro e w23 ⟨v355, rfl, ho0, hb⟩
                        refine ⟨_, rfl, ?_⟩
                        have n0_ := Aside0.mk (Kd.R_elder' (by (with_reducible repeat (first | apply Kd.RA | apply Kd.RN | apply Kd.RD)); exact HO351.out) (Kd.R_base ho0) hb)
                        have n1_ := Aside0.mk (Kd.RL (Kd.R_new' ho0 (Kd.R_lt (by (with_reducible repeat (first | apply Kd.RA | apply Kd.RN | apply Kd.RD)); exact HO351.out))) (vZ (by repeat (first | (with_reducible first | exact HB.out | apply vA | apply vN | apply vD) | exact HB.out))))
                        have n2_ := Aside0.mk (vT (by repeat (first | (with_reducible first | exact HB.out | apply vA | apply vN | apply vD) | exact HB.out)) hb)
                        clear HO351
                        clear HB
                        have HO351 := n0_
                        have HO356 := n1_
                        have HB := n2_
                        clear n0_ n1_ n2_
                        (try clear hb)
                        (try clear hb2)
                        (try clear hk)
                        (try clear hi)
                        (try clear ho0)
                        obtain ⟨Ao24, co24, eo24⟩ := Kd.R_slice HO356.out
                        (first | subst eo24 | (injection eo24 with f1_ f2_ f3_; have f4_ := f1_.symm; have f5_ := f3_.symm; clear f1_ f2_ f3_; subst f4_; subst f5_))
                        refine hK.out _ _ trivial (fun hHeld => ?_)
                        clear hK K
                        refine norm_ (a' := ?_) ?_ ?_
                        rotate_left
                        · show Act.put _ (some 50) _ = _
                          simp only [Act.put, List.setIfInBounds_toArray, List.set_cons_zero, List.set_cons_succ, i64_w, i32_w]
                          rfl
                        refine one_ (i := 7) (N := some 51) #[true, true, true, true, true, true, true, true, false] rfl rfl (one_of HT_.out (by kernel_rfl)) (by decide) (fun K hK => ?_)
                        refine goes_ Try.func57 (by kernel_rfl) rfl #[.slice A21 ((l0.take ((ji6) : Int).toNat).drop (t346 : Int).toNat).length (c0 - t346.toNat), .slice Ao24 t354.length co24] (by rfl) rfl rfl (by (try simp only [List.map_toArray, List.map_cons, List.map_nil]); first | done | (rw [show ((l0.take ((ji6) : Int).toNat).drop (t346 : Int).toNat).length = ((ji6).toNat - t346.toNat) from (by rw [List.length_drop, List.length_take]; have h_ : ((ji6) : Int) ≤ (l0.length : Int) := of_decide_eq_true (by first | (with_reducible assumption) | assumption); omega)] <;> rfl) | (simp only [hji6]; rfl) | rfl | (simp only [List.length_drop, List.length_take]; rfl)) ?_
                        with_reducible refine (bytes_Equal.calls _ _ ((l0.take ((ji6) : Int).toNat).drop (t346 : Int).toNat) _ _ t354 true _ ?side1 ?side2 ?side3 ?side4 A16.out).mono ?_
                        (case side1 => repeat (first | exact (Kd.C_below HR352.out HB.out) | (with_reducible refine Kd.C_alloc ?_ _) | (with_reducible refine Kd.C_drewN ?_ _) | (with_reducible refine Kd.C_drew ?_)))
                        (case side2 => exact HC352.out)
                        (case side3 => repeat (first | exact (Kd.R_reads' HO356.out).2.2 | (with_reducible refine Kd.C_alloc ?_ _) | (with_reducible refine Kd.C_drewN ?_ _) | (with_reducible refine Kd.C_drew ?_)))
                        (case side4 => exact (Kd.R_reads' HO356.out).2.1)
                        rintro e w' ⟨rfl, ⟨nd, rfl⟩⟩
                        refine ⟨_, rfl, ?_⟩
                        refine hK.out _ _ trivial (fun hHeld => ?_)
                        clear hK K
                        refine norm_ (a' := ?_) ?_ ?_
                        rotate_left
                        · show Act.put _ (some 51) _ = _
                          simp only [Act.put, List.setIfInBounds_toArray, List.set_cons_zero, List.set_cons_succ, i64_w, i32_w]
                          rfl
                        refine pure_ (i := 8) (N := some 52) (v := ?_) (a' := ?_) #[true, true, true, true, true, true, true, true, true] rfl rfl (any_of HT_.out (by kernel_rfl)) (fun _ _ _ h => h) (Or.inl ⟨by rfl, ?_⟩) ?_ ?_
                        rotate_left
                        · intro w'
                          go_simp
                          with_reducible rfl
                        rotate_left
                        · simp only [Act.put, List.setIfInBounds_toArray, List.set_cons_zero, List.set_cons_succ, i64_w, i32_w]
                          rfl
                        refine done_ (done_of HT_.out (by kernel_rfl)) ?_
                        try go_wp2
                        go_ret3
                        exact ⟨_, by first | rfl | (simp [eN, eS] <;> rfl) | (simp only [← hji6]; first | rfl | (simp [eN, eS] <;> rfl)) | (simp [*, eN, eS] <;> rfl) | (simp [eN, eS]; generalize ByteArray.toList _ = l_; cases l_ <;> rfl), by (with_reducible repeat (first | apply Kd.RA | apply Kd.RN | apply Kd.RD)); exact Kd.RM HO351.out (fun _ hk => trivial), by repeat (first | (with_reducible first | exact HB.out | apply vA | apply vN | apply vD) | exact HB.out)⟩
                      · replace c17 := Bool.eq_false_iff.mpr c17
                        subst c17
                        have H1 : (some (([] : List Int), 0, 5)) = some (r1, r2, r3) := by rw [if_neg (show ¬ (false = true) by decide)] at H; exact H
                        clear H
                        have H := H1
                        clear H1
                        simp only [Option.some.injEq, Prod.mk.injEq] at H
                        obtain ⟨rfl, rfl, rfl⟩ := H
                        go_enter Try.func39, Try.ntmps39
                        try go_wp2_with (first | ((with_reducible refine gate_callee (f := 56) rfl ?_); refine goesL_ (some 13) rfl rfl Try.func56 (by kernel_rfl) rfl #[.slice A0 l0.length c0] rfl (by (try simp only [List.map_toArray, List.map_cons, List.map_nil]); first | done | rfl | (simp only [List.length_drop, List.length_take]; rfl)) ?_; (with_reducible refine (varint_Get.calls k _ _ l0 t345 t346 t347 _ ?side1 ?side2 A2.out).mono ?_); (case side1 => repeat (first | exact HR0.out | (with_reducible refine Kd.C_alloc ?_ _) | (with_reducible refine Kd.C_drewN ?_ _) | (with_reducible refine Kd.C_drew ?_))); (case side2 => exact HC0.out); rintro e w' ⟨rfl, ⟨nd, rfl⟩⟩; refine ⟨_, rfl, ?_⟩; obtain ⟨i025, hi025, _, hsz25, _⟩ := info_parts info5; obtain ⟨A25, hcut25, hA25, hC25⟩ := print_mid_of (P := Try.prog) (Value.int .u8) 0 37 5 .i64 .i64 Try.underlying37 hi025 hsz25 A0 c0 l0 (ji6) (wrap64 ((ji6) + (wrap64 (t345)))) (of_decide_eq_true (by first | (with_reducible assumption) | assumption)) (by first | omega | exact of_decide_eq_true (by first | (with_reducible assumption) | assumption)) (of_decide_eq_true (by first | (with_reducible assumption) | assumption)) HC0.out; have HR348 := Aside0.mk (Kd.C_of_reads (h1 := fun _ => rfl) (hA25 _ (Kd.reads_of_C HR0.out))); have HC348 := Aside0.mk hC25; clear hA25 hC25 hi025 hsz25) | ((with_reducible refine gate_builtin (b := .append) (xs := #[(.const (.slice none 0 0)), .tmp 42]) rfl ?_); at_builtin; refine Kd.R_append_rows (Kd.int .u8) (w0 := w) w.heap.size rfl (.const (.slice none 0 0)) (.tmp 42) 37 5 (.int .u8 0) 1 rfl Try.underlying37 info5 rfl (by decide) (by omega) (.slice none 0 0) ([] : List Int) ((l0.take ((wrap64 ((ji6) + (wrap64 (t345)))) : Int).toNat).drop ((ji6) : Int).toNat) _ _ _ (fun _ => True) (fun _ => False) rfl rfl ?aO ?aR (fun _ _ h => h) (fun _ h => h.elim) ?aF ?aB ?aS ?aL ?_; (case aR => first | (rw [← show ((l0.take ((wrap64 ((ji6) + (wrap64 (t345)))) : Int).toNat).drop ((ji6) : Int).toNat).length = ((wrap64 ((ji6) + (wrap64 (t345)))).toNat - (ji6).toNat) from (by rw [List.length_drop, List.length_take]; have h_ : ((wrap64 ((ji6) + (wrap64 (t345)))) : Int) ≤ (l0.length : Int) := of_decide_eq_true (by first | (with_reducible assumption) | assumption); omega)]; repeat (first | exact HR348.out | (with_reducible refine Kd.C_alloc ?_ _) | (with_reducible refine Kd.C_drewN ?_ _) | (with_reducible refine Kd.C_drew ?_))) | (repeat (first | exact HR348.out | (with_reducible refine Kd.C_alloc ?_ _) | (with_reducible refine Kd.C_drewN ?_ _) | (with_reducible refine Kd.C_drew ?_)))); (case aB => exact (by repeat (first | (with_reducible first | exact HB.out | apply vA | apply vN | apply vD) | exact HB.out))); (case aF => exact (fun _ _ => trivial)); (case aO => exact ((Kd.R_nil _ _ _ _ (fun _ => True)))); (case aS => exact (vZ (by repeat (first | (with_reducible first | exact HB.out | apply vA | apply vN | apply vD) | exact HB.out)))); (case aL => have := LMc10.out; have hlx_ := (show ((l0.take ((wrap64 ((ji6) + (wrap64 (t345)))) : Int).toNat).drop ((ji6) : Int).toNat).length = ((wrap64 ((ji6) + (wrap64 (t345)))).toNat - (ji6).toNat) from (by rw [List.length_drop, List.length_take]; have h_ : ((wrap64 ((ji6) + (wrap64 (t345)))) : Int) ≤ (l0.length : Int) := of_decide_eq_true (by first | (with_reducible assumption) | assumption); omega)); omega); intro v350 w26 ho hb hg hat; rw [← Ny349.out] at ho; have n0_ := Aside0.mk (hb); have n1_ := Aside0.mk (ho); clear HB; have HB := n0_; have HO351 := n1_; clear n0_ n1_; clear ho hb hg hat))
                        have n0_ := Aside0.mk (Kd.RD HO351.out)
                        have n1_ := Aside0.mk (vD HB.out)
                        clear HO351
                        clear HB
                        have HO351 := n0_
                        have HB := n1_
                        clear n0_ n1_
                        obtain ⟨i028, hi028, _, hsz28, _⟩ := info_parts info5
                        obtain ⟨A28, hcut28, hA28, hC28⟩ := print_mid_of (P := Try.prog) (Value.int .u8) 0 37 5 .i64 .i64 Try.underlying37 hi028 hsz28 A0 c0 l0 t346 (ji6) (of_decide_eq_true (by first | (with_reducible assumption) | assumption)) (by first | omega | exact of_decide_eq_true (by first | (with_reducible assumption) | assumption)) (of_decide_eq_true (by first | (with_reducible assumption) | assumption)) HC0.out
                        have HR352 := Aside0.mk (Kd.C_of_reads (h1 := fun _ => rfl) (hA28 _ (Kd.reads_of_C HR0.out)))
                        have HC352 := Aside0.mk hC28
                        clear hA28 hC28 hi028 hsz28
                        obtain ⟨Ao29, co29, eo29⟩ := Kd.R_slice HO351.out
                        (first | subst eo29 | (injection eo29 with f1_ f2_ f3_; have f4_ := f1_.symm; have f5_ := f3_.symm; clear f1_ f2_ f3_; subst f4_; subst f5_))
                        refine start_ (n := 9) (S := fun w' => True) (ds := []) #[false, false, false, false, false, false, false, false, false] (by kernel_rfl) rfl rfl trivial (fun hHeld => ?_); refine with_tabW frame_Get.tab11 frame_Get.bits11 (fun HT_ HW_ => ?_)
                        generalize w26.drew = w27 at HO351 HB HR352 hHeld ⊢
                        refine pure_ (i := 0) (N := some 44) (v := ?_) (a' := ?_) #[true, false, false, false, false, false, false, false, false] rfl rfl (any_of HT_.out (by kernel_rfl)) (fun _ _ _ h => h) (Or.inl ⟨by rfl, ?_⟩) ?_ ?_
                        rotate_left
                        · intro w'
                          go_simp
                          with_reducible rfl
                        rotate_left
                        · simp only [Act.put, List.setIfInBounds_toArray, List.set_cons_zero, List.set_cons_succ, i64_w, i32_w]
                          rfl
                        refine pure_ (i := 1) (N := some 45) (v := ?_) (a' := ?_) #[true, true, false, false, false, false, false, false, false] rfl rfl (any_of HT_.out (by kernel_rfl)) (fun _ _ _ h => h) (Or.inl ⟨by rfl, ?_⟩) ?_ ?_
                        rotate_left
                        · intro w'
                          go_simp
                          with_reducible rfl
                        rotate_left
                        · simp only [Act.put, List.setIfInBounds_toArray, List.set_cons_zero, List.set_cons_succ, i64_w, i32_w]
                          rfl
                        refine pure_ (i := 2) (N := some 46) (v := ?_) (a' := ?_) #[true, true, true, false, false, false, false, false, false] rfl rfl (any_of HT_.out (by kernel_rfl)) (fun _ _ _ h => h) (Or.inl ⟨by rfl, ?_⟩) ?_ ?_
                        rotate_left
                        · intro w'
                          go_simp
                          with_reducible rfl
                        rotate_left
                        · simp only [Act.put, List.setIfInBounds_toArray, List.set_cons_zero, List.set_cons_succ, i64_w, i32_w]
                          rfl
                        refine pure_ (i := 3) (N := some 47) (v := ?_) (a' := ?_) #[true, true, true, true, false, false, false, false, false] rfl rfl (any_of HT_.out (by kernel_rfl)) (fun _ _ _ h => h) (Or.inl ⟨by rfl, ?_⟩) ?_ ?_
                        rotate_left
                        · intro w'
                          go_simp
                          with_reducible rfl
                        rotate_left
                        · simp only [Act.put, List.setIfInBounds_toArray, List.set_cons_zero, List.set_cons_succ, i64_w, i32_w]
                          rfl
                        refine pure_ (i := 4) (N := some 48) (v := ?_) (a' := ?_) #[true, true, true, true, true, false, false, false, false] rfl rfl (any_of HT_.out (by kernel_rfl)) (fun _ _ _ h => h) (Or.inl ⟨by rfl, ?_⟩) ?_ ?_
                        rotate_left
                        · intro w'
                          go_simp
                          with_reducible rfl
                        rotate_left
                        · simp only [Act.put, List.setIfInBounds_toArray, List.set_cons_zero, List.set_cons_succ, i64_w, i32_w]
                          rfl
                        refine one_ (i := 5) (N := some 49) #[true, true, true, true, true, true, false, false, false] rfl rfl (one_of HT_.out (by kernel_rfl)) (by decide) (fun K hK => ?_)
                        refine goes_ Try.func59 (by kernel_rfl) rfl #[.slice Ao29 y349.length co29] (by rfl) rfl rfl (by (try simp only [List.map_toArray, List.map_cons, List.map_nil]); first | done | rfl | (simp only [List.length_drop, List.length_take]; rfl)) ?_
                        with_reducible refine (crc_Sum.calls k _ _ y349 t353 _ ?side1 ?side2 A14.out).mono ?_
                        (case side1 => repeat (first | exact (Kd.R_reads' HO351.out).2.2 | (with_reducible refine Kd.C_alloc ?_ _) | (with_reducible refine Kd.C_drewN ?_ _) | (with_reducible refine Kd.C_drew ?_)))
                        (case side2 => exact (Kd.R_reads' HO351.out).2.1)
                        rintro e w' ⟨rfl, ⟨nd, rfl⟩⟩
                        refine ⟨_, rfl, ?_⟩
                        refine hK.out _ _ trivial (fun hHeld => ?_)
                        clear hK K
                        refine norm_ (a' := ?_) ?_ ?_
                        rotate_left
                        · show Act.put _ (some 49) _ = _
                          simp only [Act.put, List.setIfInBounds_toArray, List.set_cons_zero, List.set_cons_succ, i64_w, i32_w]
                          rfl
                        refine one_ (i := 6) (N := some 50) #[true, true, true, true, true, true, true, false, false] rfl rfl (one_of HT_.out (by kernel_rfl)) (by decide) (fun K hK => ?_)
                        refine goes_ Try.func58 (by kernel_rfl) rfl #[.int .u32 t353] (by rfl) rfl rfl (by (try simp only [List.map_toArray, List.map_cons, List.map_nil]); first | done | rfl | (simp only [List.length_drop, List.length_take]; rfl)) ?_
                        with_reducible refine (frame_written.calls t353 t354 _ A15.out).mono ?_
                        rintro e w30 ⟨v355, rfl, ho0, hb⟩
                        refine ⟨_, rfl, ?_⟩
                        have n0_ := Aside0.mk (Kd.R_elder' (by (with_reducible repeat (first | apply Kd.RA | apply Kd.RN | apply Kd.RD)); exact HO351.out) (Kd.R_base ho0) hb)
                        have n1_ := Aside0.mk (Kd.RL (Kd.R_new' ho0 (Kd.R_lt (by (with_reducible repeat (first | apply Kd.RA | apply Kd.RN | apply Kd.RD)); exact HO351.out))) (vZ (by repeat (first | (with_reducible first | exact HB.out | apply vA | apply vN | apply vD) | exact HB.out))))
                        have n2_ := Aside0.mk (vT (by repeat (first | (with_reducible first | exact HB.out | apply vA | apply vN | apply vD) | exact HB.out)) hb)
                        clear HO351
                        clear HB
                        have HO351 := n0_
                        have HO356 := n1_
                        have HB := n2_
                        clear n0_ n1_ n2_
                        (try clear hb)
                        (try clear hb2)
                        (try clear hk)
                        (try clear hi)
                        (try clear ho0)
                        obtain ⟨Ao31, co31, eo31⟩ := Kd.R_slice HO356.out
                        (first | subst eo31 | (injection eo31 with f1_ f2_ f3_; have f4_ := f1_.symm; have f5_ := f3_.symm; clear f1_ f2_ f3_; subst f4_; subst f5_))
                        refine hK.out _ _ trivial (fun hHeld => ?_)
                        clear hK K
                        refine norm_ (a' := ?_) ?_ ?_
                        rotate_left
                        · show Act.put _ (some 50) _ = _
                          simp only [Act.put, List.setIfInBounds_toArray, List.set_cons_zero, List.set_cons_succ, i64_w, i32_w]
                          rfl
                        refine one_ (i := 7) (N := some 51) #[true, true, true, true, true, true, true, true, false] rfl rfl (one_of HT_.out (by kernel_rfl)) (by decide) (fun K hK => ?_)
                        refine goes_ Try.func57 (by kernel_rfl) rfl #[.slice A28 ((l0.take ((ji6) : Int).toNat).drop (t346 : Int).toNat).length (c0 - t346.toNat), .slice Ao31 t354.length co31] (by rfl) rfl rfl (by (try simp only [List.map_toArray, List.map_cons, List.map_nil]); first | done | (rw [show ((l0.take ((ji6) : Int).toNat).drop (t346 : Int).toNat).length = ((ji6).toNat - t346.toNat) from (by rw [List.length_drop, List.length_take]; have h_ : ((ji6) : Int) ≤ (l0.length : Int) := of_decide_eq_true (by first | (with_reducible assumption) | assumption); omega)] <;> rfl) | (simp only [hji6]; rfl) | rfl | (simp only [List.length_drop, List.length_take]; rfl)) ?_
                        with_reducible refine (bytes_Equal.calls _ _ ((l0.take ((ji6) : Int).toNat).drop (t346 : Int).toNat) _ _ t354 false _ ?side1 ?side2 ?side3 ?side4 A16.out).mono ?_
                        (case side1 => repeat (first | exact (Kd.C_below HR352.out HB.out) | (with_reducible refine Kd.C_alloc ?_ _) | (with_reducible refine Kd.C_drewN ?_ _) | (with_reducible refine Kd.C_drew ?_)))
                        (case side2 => exact HC352.out)
                        (case side3 => repeat (first | exact (Kd.R_reads' HO356.out).2.2 | (with_reducible refine Kd.C_alloc ?_ _) | (with_reducible refine Kd.C_drewN ?_ _) | (with_reducible refine Kd.C_drew ?_)))
                        (case side4 => exact (Kd.R_reads' HO356.out).2.1)
                        rintro e w' ⟨rfl, ⟨nd, rfl⟩⟩
                        refine ⟨_, rfl, ?_⟩
                        refine hK.out _ _ trivial (fun hHeld => ?_)
                        clear hK K
                        refine norm_ (a' := ?_) ?_ ?_
                        rotate_left
                        · show Act.put _ (some 51) _ = _
                          simp only [Act.put, List.setIfInBounds_toArray, List.set_cons_zero, List.set_cons_succ, i64_w, i32_w]
                          rfl
                        refine pure_ (i := 8) (N := some 52) (v := ?_) (a' := ?_) #[true, true, true, true, true, true, true, true, true] rfl rfl (any_of HT_.out (by kernel_rfl)) (fun _ _ _ h => h) (Or.inl ⟨by rfl, ?_⟩) ?_ ?_
                        rotate_left
                        · intro w'
                          go_simp
                          with_reducible rfl
                        rotate_left
                        · simp only [Act.put, List.setIfInBounds_toArray, List.set_cons_zero, List.set_cons_succ, i64_w, i32_w]
                          rfl
                        refine done_ (done_of HT_.out (by kernel_rfl)) ?_
                        try go_wp2
                        go_ret3
                        exact ⟨_, by first | rfl | (simp [eN, eS] <;> rfl) | (simp only [← hji6]; first | rfl | (simp [eN, eS] <;> rfl)) | (simp [*, eN, eS] <;> rfl) | (simp [eN, eS]; generalize ByteArray.toList _ = l_; cases l_ <;> rfl), by first | exact Kd.R_nil _ _ _ _ _ | exact Kd.N_nil _ _ _ _ _ | exact Kd.V_nil _ _ _ _ _ | exact Kd.Q_nil _ _ _ _ _ | exact Kd.S_nil _ _ _ _ _, by repeat (first | (with_reducible first | exact HB.out | apply vA | apply vN | apply vD) | exact HB.out)⟩
                    · rw [if_neg c13] at H
                      exact absurd H (by simp)
                  · rw [if_neg c12] at H
                    exact absurd H (by simp)
                · rw [if_neg c11] at H
                  exact absurd H (by simp)
              · rw [if_neg c10] at H
                exact absurd H (by simp)
            · rw [if_neg c9] at H
              exact absurd H (by simp)
          · rw [if_neg c8] at H
            exact absurd H (by simp)
        · rw [if_neg c7] at H
          exact absurd H (by simp)
  · rw [if_neg c3] at H
    have c3b0 : (t347 == 0) = false := beq_eq_false_iff_ne.mpr c3
    have c3b1 : (t347 != 0) = true := bne_iff_ne.mpr c3
    simp only [Option.some.injEq, Prod.mk.injEq] at H
    obtain ⟨rfl, rfl, rfl⟩ := H
    go_enter Try.func39, Try.ntmps39
    go_wp2_with (first | ((with_reducible refine gate_callee (f := 56) rfl ?_); refine goesL_ (some 13) rfl rfl Try.func56 (by kernel_rfl) rfl #[.slice A0 l0.length c0] rfl (by (try simp only [List.map_toArray, List.map_cons, List.map_nil]); first | done | rfl | (simp only [List.length_drop, List.length_take]; rfl)) ?_; (with_reducible refine (varint_Get.calls k _ _ l0 t345 t346 t347 _ ?side1 ?side2 A2.out).mono ?_); (case side1 => repeat (first | exact HR0.out | (with_reducible refine Kd.C_alloc ?_ _) | (with_reducible refine Kd.C_drewN ?_ _) | (with_reducible refine Kd.C_drew ?_))); (case side2 => exact HC0.out); rintro e w' ⟨rfl, ⟨nd, rfl⟩⟩; refine ⟨_, rfl, ?_⟩))
    go_ret3
    exact ⟨_, by first | rfl | (simp [*, eN, eS] <;> rfl) | (simp [eN, eS]; generalize ByteArray.toList _ = l_; cases l_ <;> rfl), by first | exact Kd.R_nil _ _ _ _ _ | exact Kd.N_nil _ _ _ _ _ | exact Kd.V_nil _ _ _ _ _ | exact Kd.Q_nil _ _ _ _ _ | exact Kd.S_nil _ _ _ _ _, by repeat (first | (with_reducible first | exact HB.out | apply vA | apply vN | apply vD) | exact HB.out)⟩

end Go.Proofs.Ytphnolgneojdhaa.V

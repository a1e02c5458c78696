-- printed by a program of this session (a changed copy of the kit's printer; squeeze.py)
import Derived.Test.YtphnolgneojdhaaZx0
import Derived.Test.YtphnolgneojdhaaZx11
namespace Go.Proofs.Ytphnolgneojdhaa.Z
open Go.RowKit Go.Proofs.YtphnolgneojdhaaW.PrintWords Go.Proofs.YtphnolgneojdhaaW.PrintLast Go.Proofs.YtphnolgneojdhaaW.PrintMore
attribute [local go_sem] max2_int min2_int max_two min_two max_three min_three max_four min_four   -- for this text's walks alone
set_option linter.unusedVariables false
set_option linter.unusedSimpArgs false
/-! ### cooperageref1_part: function 66 -/
def cooperageref1_part.f (k : Nat) (l0 : List Int) (a1 : Int) (a2 : Int) : Option (ByteArray × Int × Int) := if 0 ≤ a1 then (if a1 ≤ (l0.length : Int) then ((cooperageref1_Get.f k (l0.drop (a1 : Int).toNat)).bind fun bt479 => (if bt479.2.2 = 0 then (if bt479.1 > (IntKind.u64.wrap (a2)) then (some ((⟨#[]⟩ : ByteArray), 0, 2)) else (if (wrap64 ((l0.length : Int) - (wrap64 (a1 + bt479.2.1)))) < (wrap64 (bt479.1)) then (some ((⟨#[]⟩ : ByteArray), 0, 4)) else (if 0 ≤ (wrap64 (a1 + bt479.2.1)) then (if (wrap64 (a1 + bt479.2.1)) ≤ (wrap64 ((wrap64 (a1 + bt479.2.1)) + (wrap64 (bt479.1)))) then (if (wrap64 ((wrap64 (a1 + bt479.2.1)) + (wrap64 (bt479.1)))) ≤ (l0.length : Int) then (some (strOfNums ((l0.take ((wrap64 ((wrap64 (a1 + bt479.2.1)) + (wrap64 (bt479.1)))) : Int).toNat).drop ((wrap64 (a1 + bt479.2.1)) : Int).toNat), wrap64 ((wrap64 (a1 + bt479.2.1)) + (wrap64 (bt479.1))), 0)) else (none)) else (none)) else (none)))) else (some ((⟨#[]⟩ : ByteArray), 0, bt479.2.2)))) else (none)) else (none)
theorem cooperageref1_part.mono : ∀ a0 a1 a2 k, LeO (cooperageref1_part.f k a0 a1 a2) (cooperageref1_part.f (k + 1) a0 a1 a2) := by
  intro a0 a1 a2 k
  unfold cooperageref1_part.f
  repeat' first
      | (with_reducible exact LeO.refl _)
      | (with_reducible exact LeO.none _)
      | (with_reducible refine LeO.ite ?_ ?_)
      | (with_reducible refine LeO.bind ?_ (fun _ => ?_))
      | exact cooperageref1_Get.mono _ _
      | exact LeO.none _
      | refine LeO.ite ?_ ?_
      | refine LeO.bind ?_ (fun _ => ?_)
set_option maxHeartbeats 8000000 in
set_option maxRecDepth 100000 in
theorem cooperageref1_part.calls (k : Nat) (A0 : Option Addr) (c0 : Nat) (l0 : List Int) (a1 : Int) (a2 : Int) (r1 : ByteArray) (r2 : Int) (r3 : Int) (w : World) (hr0 : Kd.C (Kd.int .u8) w A0 l0.length l0) (hc0 : l0.length ≤ c0) (h : cooperageref1_part.f k l0 a1 a2 = some (r1, r2, r3)) :
    Calls Try.prog 66 #[.slice A0 l0.length c0, .int .i64 a1, .int .i64 a2] w fun e w' => e = .returned (.tuple #[.string r1, .int .i64 r2, .int .i64 r3]) ∧ Drawn0 w w' := by
  have HR0 := Aside0.mk hr0
  have HC0 := Aside0.mk hc0
  clear hr0 hc0
  have H : (if 0 ≤ a1 then (if a1 ≤ (l0.length : Int) then ((cooperageref1_Get.f k (l0.drop (a1 : Int).toNat)).bind fun bt479 => (if bt479.2.2 = 0 then (if bt479.1 > (IntKind.u64.wrap (a2)) then (some ((⟨#[]⟩ : ByteArray), 0, 2)) else (if (wrap64 ((l0.length : Int) - (wrap64 (a1 + bt479.2.1)))) < (wrap64 (bt479.1)) then (some ((⟨#[]⟩ : ByteArray), 0, 4)) else (if 0 ≤ (wrap64 (a1 + bt479.2.1)) then (if (wrap64 (a1 + bt479.2.1)) ≤ (wrap64 ((wrap64 (a1 + bt479.2.1)) + (wrap64 (bt479.1)))) then (if (wrap64 ((wrap64 (a1 + bt479.2.1)) + (wrap64 (bt479.1)))) ≤ (l0.length : Int) then (some (strOfNums ((l0.take ((wrap64 ((wrap64 (a1 + bt479.2.1)) + (wrap64 (bt479.1)))) : Int).toNat).drop ((wrap64 (a1 + bt479.2.1)) : Int).toNat), wrap64 ((wrap64 (a1 + bt479.2.1)) + (wrap64 (bt479.1))), 0)) else (none)) else (none)) else (none)))) else (some ((⟨#[]⟩ : ByteArray), 0, bt479.2.2)))) else (none)) else (none)) = some (r1, r2, r3) := h
  clear h
  by_cases c4 : 0 ≤ a1
  · rw [if_pos c4] at H
    have c4b0 := eq_true c4
    have c4b1 : decide (0 ≤ a1) = true := decide_eq_true c4
    clear c4
    by_cases c5 : a1 ≤ (l0.length : Int)
    · rw [if_pos c5] at H
      have c5b0 := eq_true c5
      have c5b1 : decide (a1 ≤ (l0.length : Int)) = true := decide_eq_true c5
      clear c5
      replace H := Option.bind_eq_some_iff.mp H
      obtain ⟨⟨t479, t480, t481⟩, A60, H⟩ := H
      replace H : (if t481 = 0 then (if t479 > (IntKind.u64.wrap (a2)) then (some ((⟨#[]⟩ : ByteArray), 0, 2)) else (if (wrap64 ((l0.length : Int) - (wrap64 (a1 + t480)))) < (wrap64 (t479)) then (some ((⟨#[]⟩ : ByteArray), 0, 4)) else (if 0 ≤ (wrap64 (a1 + t480)) then (if (wrap64 (a1 + t480)) ≤ (wrap64 ((wrap64 (a1 + t480)) + (wrap64 (t479)))) then (if (wrap64 ((wrap64 (a1 + t480)) + (wrap64 (t479)))) ≤ (l0.length : Int) then (some (strOfNums ((l0.take ((wrap64 ((wrap64 (a1 + t480)) + (wrap64 (t479)))) : Int).toNat).drop ((wrap64 (a1 + t480)) : Int).toNat), wrap64 ((wrap64 (a1 + t480)) + (wrap64 (t479))), 0)) else (none)) else (none)) else (none)))) else (some ((⟨#[]⟩ : ByteArray), 0, t481))) = some (r1, r2, r3) := H
      have A6 := Aside0.mk A60
      clear A60
      by_cases c7 : t481 = 0
      · rw [if_pos c7] at H
        have c7b0 : (t481 == 0) = true := beq_iff_eq.mpr c7
        have c7b1 : (t481 != 0) = false := bne_eq_false_iff_eq.mpr c7
        clear c7
        by_cases c8 : t479 > (IntKind.u64.wrap (a2))
        · rw [if_pos c8] at H
          have c8b0 : decide ((IntKind.u64.wrap (a2)) < t479) = true := decide_eq_true c8
          clear c8
          simp only [Option.some.injEq, Prod.mk.injEq] at H
          obtain ⟨rfl, rfl, rfl⟩ := H
          obtain ⟨i09, hi09, _, hsz9, _⟩ := info_parts info5
          obtain ⟨A9, hcut9, hA9, hC9⟩ := print_drop_of (P := Try.prog) (Value.int .u8) 0 37 5 .i64 Try.underlying37 hi09 hsz9 A0 c0 l0 a1 (of_decide_eq_true (by first | (with_reducible assumption) | assumption)) (of_decide_eq_true (by first | (with_reducible assumption) | assumption)) HC0.out
          have HR478 := Aside0.mk (Kd.C_of_reads (h1 := fun _ => rfl) (hA9 _ (Kd.reads_of_C HR0.out)))
          have HC478 := Aside0.mk hC9
          clear hA9 hC9 hi09 hsz9
          go_enter Try.func66, Try.ntmps66
          go_wp2_with (first | ((with_reducible refine gate_callee (f := 64) rfl ?_); refine goesL_ (some 16) rfl rfl Try.func64 (by kernel_rfl) rfl #[.slice A9 (l0.drop (a1 : Int).toNat).length (c0 - a1.toNat)] rfl (by (try simp only [List.map_toArray, List.map_cons, List.map_nil]); first | done | (rw [show (l0.drop (a1 : Int).toNat).length = (l0.length - a1.toNat) from List.length_drop] <;> rfl) | rfl | (simp only [List.length_drop, List.length_take]; rfl)) ?_; (with_reducible refine (cooperageref1_Get.calls k _ _ (l0.drop (a1 : Int).toNat) t479 t480 t481 _ ?side1 ?side2 A6.out).mono ?_); (case side1 => repeat (first | exact HR478.out | (with_reducible refine Kd.C_alloc ?_ _) | (with_reducible refine Kd.C_drewN ?_ _) | (with_reducible refine Kd.C_drew ?_))); (case side2 => exact HC478.out); rintro e w' ⟨rfl, ⟨nd, rfl⟩⟩; refine ⟨_, rfl, ?_⟩))
          go_ret3
          exact ⟨by first | rfl | (simp; done) | (simp [*]; done), by repeat (first | exact Drawn0.refl _ | apply Drawn0.step)⟩
        · rw [if_neg c8] at H
          have c8b0 : decide ((IntKind.u64.wrap (a2)) < t479) = false := decide_eq_false c8
          clear c8
          by_cases c10 : (wrap64 ((l0.length : Int) - (wrap64 (a1 + t480)))) < (wrap64 (t479))
          · rw [if_pos c10] at H
            have c10b0 : decide ((wrap64 ((l0.length : Int) - (wrap64 (a1 + t480)))) < (wrap64 (t479))) = true := decide_eq_true c10
            clear c10
            simp only [Option.some.injEq, Prod.mk.injEq] at H
            obtain ⟨rfl, rfl, rfl⟩ := H
            obtain ⟨i011, hi011, _, hsz11, _⟩ := info_parts info5
            obtain ⟨A11, hcut11, hA11, hC11⟩ := print_drop_of (P := Try.prog) (Value.int .u8) 0 37 5 .i64 Try.underlying37 hi011 hsz11 A0 c0 l0 a1 (of_decide_eq_true (by first | (with_reducible assumption) | assumption)) (of_decide_eq_true (by first | (with_reducible assumption) | assumption)) HC0.out
            have HR478 := Aside0.mk (Kd.C_of_reads (h1 := fun _ => rfl) (hA11 _ (Kd.reads_of_C HR0.out)))
            have HC478 := Aside0.mk hC11
            clear hA11 hC11 hi011 hsz11
            go_enter Try.func66, Try.ntmps66
            go_wp2_with (first | ((with_reducible refine gate_callee (f := 64) rfl ?_); refine goesL_ (some 16) rfl rfl Try.func64 (by kernel_rfl) rfl #[.slice A11 (l0.drop (a1 : Int).toNat).length (c0 - a1.toNat)] rfl (by (try simp only [List.map_toArray, List.map_cons, List.map_nil]); first | done | (rw [show (l0.drop (a1 : Int).toNat).length = (l0.length - a1.toNat) from List.length_drop] <;> rfl) | rfl | (simp only [List.length_drop, List.length_take]; rfl)) ?_; (with_reducible refine (cooperageref1_Get.calls k _ _ (l0.drop (a1 : Int).toNat) t479 t480 t481 _ ?side1 ?side2 A6.out).mono ?_); (case side1 => repeat (first | exact HR478.out | (with_reducible refine Kd.C_alloc ?_ _) | (with_reducible refine Kd.C_drewN ?_ _) | (with_reducible refine Kd.C_drew ?_))); (case side2 => exact HC478.out); rintro e w' ⟨rfl, ⟨nd, rfl⟩⟩; refine ⟨_, rfl, ?_⟩))
            go_ret3
            exact ⟨by first | rfl | (simp; done) | (simp [*]; done), by repeat (first | exact Drawn0.refl _ | apply Drawn0.step)⟩
          · rw [if_neg c10] at H
            have c10b0 : decide ((wrap64 ((l0.length : Int) - (wrap64 (a1 + t480)))) < (wrap64 (t479))) = false := decide_eq_false c10
            clear c10
            obtain ⟨ji12, hji12⟩ : ∃ j_ : Int, (wrap64 (a1 + t480)) = j_ := ⟨_, rfl⟩
            replace H : (if 0 ≤ (ji12) then (if (ji12) ≤ (wrap64 ((ji12) + (wrap64 (t479)))) then (if (wrap64 ((ji12) + (wrap64 (t479)))) ≤ (l0.length : Int) then (some (strOfNums ((l0.take ((wrap64 ((ji12) + (wrap64 (t479)))) : Int).toNat).drop ((ji12) : Int).toNat), wrap64 ((ji12) + (wrap64 (t479))), 0)) else (none)) else (none)) else (none)) = some (r1, r2, r3) := by first | (rw [hji12] at H; exact H) | (simp only [hji12] at H ⊢; exact H)
            (try rw [hji12] at c10b0)
            (try rw [hji12] at A6)
            have hji12w : (IntKind.i64.wrap (a1 + t480)) = ji12 := (i64_w _).trans hji12
            by_cases c13 : 0 ≤ (ji12)
            · rw [if_pos c13] at H
              have c13b0 := eq_true c13
              have c13b1 : decide (0 ≤ (ji12)) = true := decide_eq_true c13
              clear c13
              by_cases c14 : (ji12) ≤ (wrap64 ((ji12) + (wrap64 (t479))))
              · rw [if_pos c14] at H
                have c14b0 := eq_true c14
                have c14b1 : decide ((ji12) ≤ (wrap64 ((ji12) + (wrap64 (t479))))) = true := decide_eq_true c14
                by_cases c15 : (wrap64 ((ji12) + (wrap64 (t479)))) ≤ (l0.length : Int)
                · rw [if_pos c15] at H
                  have c15b0 := eq_true c15
                  have c15b1 : decide ((wrap64 ((ji12) + (wrap64 (t479)))) ≤ (l0.length : Int)) = true := decide_eq_true c15
                  simp only [Option.some.injEq, Prod.mk.injEq] at H
                  obtain ⟨rfl, rfl, rfl⟩ := H
                  obtain ⟨i016, hi016, _, hsz16, _⟩ := info_parts info5
                  obtain ⟨A16, hcut16, hA16, hC16⟩ := print_drop_of (P := Try.prog) (Value.int .u8) 0 37 5 .i64 Try.underlying37 hi016 hsz16 A0 c0 l0 a1 (of_decide_eq_true (by first | (with_reducible assumption) | assumption)) (of_decide_eq_true (by first | (with_reducible assumption) | assumption)) HC0.out
                  have HR478 := Aside0.mk (Kd.C_of_reads (h1 := fun _ => rfl) (hA16 _ (Kd.reads_of_C HR0.out)))
                  have HC478 := Aside0.mk hC16
                  clear hA16 hC16 hi016 hsz16
                  go_enter Try.func66, Try.ntmps66
                  go_wp2_with (first | ((with_reducible refine gate_callee (f := 64) rfl ?_); refine goesL_ (some 16) rfl rfl Try.func64 (by kernel_rfl) rfl #[.slice A16 (l0.drop (a1 : Int).toNat).length (c0 - a1.toNat)] rfl (by (try simp only [List.map_toArray, List.map_cons, List.map_nil]); first | done | (rw [show (l0.drop (a1 : Int).toNat).length = (l0.length - a1.toNat) from List.length_drop] <;> rfl) | rfl | (simp only [List.length_drop, List.length_take]; rfl)) ?_; (with_reducible refine (cooperageref1_Get.calls k _ _ (l0.drop (a1 : Int).toNat) t479 t480 t481 _ ?side1 ?side2 A6.out).mono ?_); (case side1 => repeat (first | exact HR478.out | (with_reducible refine Kd.C_alloc ?_ _) | (with_reducible refine Kd.C_drewN ?_ _) | (with_reducible refine Kd.C_drew ?_))); (case side2 => exact HC478.out); rintro e w' ⟨rfl, ⟨nd, rfl⟩⟩; refine ⟨_, rfl, ?_⟩; obtain ⟨i017, hi017, _, hsz17, _⟩ := info_parts info5; obtain ⟨A17, hcut17, hA17, hC17⟩ := print_mid_of (P := Try.prog) (Value.int .u8) 0 37 5 .i64 .i64 Try.underlying37 hi017 hsz17 A0 c0 l0 (ji12) (wrap64 ((ji12) + (wrap64 (t479)))) (of_decide_eq_true (by first | (with_reducible assumption) | assumption)) (by first | omega | exact of_decide_eq_true (by first | (with_reducible assumption) | assumption)) (of_decide_eq_true (by first | (with_reducible assumption) | assumption)) HC0.out; have HR482 := Aside0.mk (Kd.C_of_reads (h1 := fun _ => rfl) (hA17 _ (Kd.reads_of_C HR0.out))); have HC482 := Aside0.mk hC17; clear hA17 hC17 hi017 hsz17; have hcv18 := Kd.C_string (P := Try.prog) (A := A17) (c := (c0 - (ji12).toNat)) Try.underlying37 Try.underlying5 Try.underlying9 HR482.out; have hcn18 := fun (n_ : Nat) => Kd.C_string (P := Try.prog) (A := A17) (c := (c0 - (ji12).toNat)) Try.underlying37 Try.underlying5 Try.underlying9 (Kd.C_drewN HR482.out n_); (try simp only [show ((l0.take ((wrap64 ((ji12) + (wrap64 (t479)))) : Int).toNat).drop ((ji12) : Int).toNat).length = ((wrap64 ((ji12) + (wrap64 (t479)))).toNat - (ji12).toNat) from (by rw [List.length_drop, List.length_take]; have h_ : ((wrap64 ((ji12) + (wrap64 (t479)))) : Int) ≤ (l0.length : Int) := of_decide_eq_true (by first | (with_reducible assumption) | assumption); omega)] at hcv18); (try simp only [show ((l0.take ((wrap64 ((ji12) + (wrap64 (t479)))) : Int).toNat).drop ((ji12) : Int).toNat).length = ((wrap64 ((ji12) + (wrap64 (t479)))).toNat - (ji12).toNat) from (by rw [List.length_drop, List.length_take]; have h_ : ((wrap64 ((ji12) + (wrap64 (t479)))) : Int) ≤ (l0.length : Int) := of_decide_eq_true (by first | (with_reducible assumption) | assumption); omega)] at hcn18)))
                  go_ret3
                  exact ⟨by first | rfl | (simp; done) | (simp only [← hji12] <;> (first | rfl | simp)) | (simp [*]; done), by repeat (first | exact Drawn0.refl _ | apply Drawn0.step)⟩
                · rw [if_neg c15] at H
                  exact absurd H (by simp)
              · rw [if_neg c14] at H
                exact absurd H (by simp)
            · rw [if_neg c13] at H
              exact absurd H (by simp)
      · rw [if_neg c7] at H
        have c7b0 : (t481 == 0) = false := beq_eq_false_iff_ne.mpr c7
        have c7b1 : (t481 != 0) = true := bne_iff_ne.mpr c7
        simp only [Option.some.injEq, Prod.mk.injEq] at H
        obtain ⟨rfl, rfl, rfl⟩ := H
        obtain ⟨i019, hi019, _, hsz19, _⟩ := info_parts info5
        obtain ⟨A19, hcut19, hA19, hC19⟩ := print_drop_of (P := Try.prog) (Value.int .u8) 0 37 5 .i64 Try.underlying37 hi019 hsz19 A0 c0 l0 a1 (of_decide_eq_true (by first | (with_reducible assumption) | assumption)) (of_decide_eq_true (by first | (with_reducible assumption) | assumption)) HC0.out
        have HR478 := Aside0.mk (Kd.C_of_reads (h1 := fun _ => rfl) (hA19 _ (Kd.reads_of_C HR0.out)))
        have HC478 := Aside0.mk hC19
        clear hA19 hC19 hi019 hsz19
        go_enter Try.func66, Try.ntmps66
        go_wp2_with (first | ((with_reducible refine gate_callee (f := 64) rfl ?_); refine goesL_ (some 16) rfl rfl Try.func64 (by kernel_rfl) rfl #[.slice A19 (l0.drop (a1 : Int).toNat).length (c0 - a1.toNat)] rfl (by (try simp only [List.map_toArray, List.map_cons, List.map_nil]); first | done | (rw [show (l0.drop (a1 : Int).toNat).length = (l0.length - a1.toNat) from List.length_drop] <;> rfl) | rfl | (simp only [List.length_drop, List.length_take]; rfl)) ?_; (with_reducible refine (cooperageref1_Get.calls k _ _ (l0.drop (a1 : Int).toNat) t479 t480 t481 _ ?side1 ?side2 A6.out).mono ?_); (case side1 => repeat (first | exact HR478.out | (with_reducible refine Kd.C_alloc ?_ _) | (with_reducible refine Kd.C_drewN ?_ _) | (with_reducible refine Kd.C_drew ?_))); (case side2 => exact HC478.out); rintro e w' ⟨rfl, ⟨nd, rfl⟩⟩; refine ⟨_, rfl, ?_⟩))
        go_ret3
        exact ⟨by first | rfl | (simp; done) | (simp [*]; done), by repeat (first | exact Drawn0.refl _ | apply Drawn0.step)⟩
    · rw [if_neg c5] at H
      exact absurd H (by simp)
  · rw [if_neg c4] at H
    exact absurd H (by simp)

end Go.Proofs.Ytphnolgneojdhaa.Z

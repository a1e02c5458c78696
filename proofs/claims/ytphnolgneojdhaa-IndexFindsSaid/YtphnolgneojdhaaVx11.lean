-- printed by a program of this session (a changed copy of the kit's printer; squeeze.py)
import Derived.Test.YtphnolgneojdhaaVx0
import Derived.Test.YtphnolgneojdhaaVx6
import Derived.Test.YtphnolgneojdhaaVx7
import Derived.Test.YtphnolgneojdhaaVx8
import Derived.Test.YtphnolgneojdhaaVx10
namespace Go.Proofs.Ytphnolgneojdhaa.V
open Go.RowKit Go.Proofs.YtphnolgneojdhaaW.PrintWords Go.Proofs.YtphnolgneojdhaaW.PrintLast Go.Proofs.YtphnolgneojdhaaW.PrintMore
attribute [local go_sem] max2_int min2_int max_two min_two max_three min_three max_four min_four   -- for this text's walks alone
set_option linter.unusedVariables false
set_option linter.unusedSimpArgs false
/-! ### segment_Scan: function 19 -/
def segment_Scan.l0 : Nat → List Int → List (S34) → Int → Int → Option ((List (S34)) × Int)
  | 0, _, _, _, _ => none
  | k + 1, x0, x4, x5, x6 => if x5 < (x0.length : Int) then (if 0 ≤ x5 then (if x5 ≤ (x0.length : Int) then ((frame_Get.f k (x0.drop (x5 : Int).toNat)).bind fun bt390 => (if bt390.2.2 = 0 then ((record_Get.f k bt390.1).bind fun bt395 => (if bt395.2.2.2.2.2.2 = 0 then (if bt395.2.2.2.2.2.1 = (bt390.1.length : Int) then (if bt395.1 ≤ x6 then (some (x4, x5)) else (if x4.length < 2513169434916 then (segment_Scan.l0 k x0 (x4 ++ [(⟨bt395.1, bt395.2.1, bt395.2.2.1, bt395.2.2.2.1, bt395.2.2.2.2.1⟩ : S34)]) (wrap64 (x5 + bt390.2.1)) bt395.1) else (none))) else (some (x4, x5))) else (some (x4, x5)))) else (some (x4, x5)))) else (none)) else (none)) else (some (x4, x5))
def segment_Scan.f (k : Nat) (l0 : List Int) : Option ((List (S34)) × Int) := segment_Scan.l0 k l0 ([] : List (S34)) 0 (-1)
theorem segment_Scan.mono_l : ∀ k, (∀ y0 y1 y2 y3, LeO (segment_Scan.l0 k y0 y1 y2 y3) (segment_Scan.l0 (k + 1) y0 y1 y2 y3))
  | 0 => fun _ _ _ _ r h => by simp [segment_Scan.l0] at h
  | k + 1 => by
    have ih0 := segment_Scan.mono_l k
    · intro y0 y1 y2 y3
      unfold segment_Scan.l0
      repeat' first
      | (with_reducible exact LeO.refl _)
      | (with_reducible exact LeO.none _)
      | (with_reducible refine LeO.ite ?_ ?_)
      | (with_reducible refine LeO.bind ?_ (fun _ => ?_))
      | exact ih0 _ _ _ _
      | exact frame_Get.mono _ _
      | exact record_Get.mono _ _
      | exact LeO.none _
      | refine LeO.ite ?_ ?_
      | refine LeO.bind ?_ (fun _ => ?_)
theorem segment_Scan.mono : ∀ a0 k, LeO (segment_Scan.f k a0) (segment_Scan.f (k + 1) a0) := by
  intro a0 k
  have ih0 := segment_Scan.mono_l k
  unfold segment_Scan.f
  repeat' first
      | (with_reducible exact LeO.refl _)
      | (with_reducible exact LeO.none _)
      | (with_reducible refine LeO.ite ?_ ?_)
      | (with_reducible refine LeO.bind ?_ (fun _ => ?_))
      | exact ih0 _ _ _ _
      | exact frame_Get.mono _ _
      | exact record_Get.mono _ _
      | exact LeO.none _
      | refine LeO.ite ?_ ?_
      | refine LeO.bind ?_ (fun _ => ?_)
set_option maxHeartbeats 8000000 in
set_option maxRecDepth 100000 in
theorem segment_Scan.calls (k : Nat) (A0 : Option Addr) (c0 : Nat) (l0 : List Int) (r1 : List (S34)) (r2 : Int) (w : World) (hr0 : Kd.C (Kd.int .u8) w A0 l0.length l0) (hc0 : l0.length ≤ c0) (h : segment_Scan.f k l0 = some (r1, r2)) :
    Calls Try.prog 19 #[.slice A0 l0.length c0] w fun e w' => ∃ v0_ : Value, e = .returned (.tuple #[v0_, .int .i64 r2]) ∧ Kd.R k34 34 w' w.heap.size (fun _ => True) v0_ r1 ∧ Below w.heap.size w w' := by
  have hu34 := Try.underlying34
  have HR0 := Aside0.mk hr0
  have HC0 := Aside0.mk hc0
  clear hr0 hc0
  have HB := Aside0.mk (Below.refl w.heap.size w)
  have H : (segment_Scan.l0 k l0 ([] : List (S34)) 0 (-1)) = some (r1, r2) := h
  clear h
  have H' := Aside0.mk H
  clear H
  go_enter Try.func19, Try.ntmps19
  go_wp2
  repeat (go_quiet (fail); try go_wp2)
  go_loopg [4, 5, 6] k (fun kq v4 v5 v6 w' => ∃ (x4_1 : List (S34)) (x5_1 : Int) (x6_1 : Int), v5 = .int .i64 x5_1 ∧ v6 = .int .i64 x6_1 ∧ Aside0 (segment_Scan.l0 kq l0 x4_1 x5_1 x6_1 = some (r1, r2)) ∧ Aside0 (kq ≤ k) ∧ Aside0 (Kd.R k34 34 w' w.heap.size (fun _ => True) v4 x4_1) ∧ Aside0 (Below w.heap.size w w'))
  case atStart => exact ⟨(([] : List (S34))), (0), ((-1)), (by first | rfl | (simp; done) | (simp [*]; done)), (by first | rfl | (simp; done) | (simp [*]; done)), H', ⟨Nat.le_refl _⟩, ⟨by first | exact Kd.R_nil _ _ _ _ _ | exact Kd.N_nil _ _ _ _ _ | exact Kd.V_nil _ _ _ _ _ | exact Kd.Q_nil _ _ _ _ _ | exact Kd.S_nil _ _ _ _ _⟩, ⟨by repeat (first | (with_reducible first | exact HB.out | apply vA | apply vN | apply vD) | exact HB.out)⟩⟩
  case round =>
    clear H'
    try clear c1
    obtain ⟨x4_1, x5_1, x6_1, rfl, rfl, HA, HK1, HO_4, HB⟩ := hrel
    cases gk with
    | zero => exact absurd HA.out (by simp [segment_Scan.l0])
    | succ k1 =>
      have H := HA.out
      clear HA
      simp only [segment_Scan.l0] at H
      by_cases c2 : x5_1 < (l0.length : Int)
      · rw [if_pos c2] at H
        have c2b0 : decide (x5_1 < (l0.length : Int)) = true := decide_eq_true c2
        clear c2
        by_cases c3 : 0 ≤ x5_1
        · rw [if_pos c3] at H
          have c3b0 := eq_true c3
          have c3b1 : decide (0 ≤ x5_1) = true := decide_eq_true c3
          clear c3
          by_cases c4 : x5_1 ≤ (l0.length : Int)
          · rw [if_pos c4] at H
            have c4b0 := eq_true c4
            have c4b1 : decide (x5_1 ≤ (l0.length : Int)) = true := decide_eq_true c4
            clear c4
            replace H := Option.bind_eq_some_iff.mp H
            obtain ⟨⟨t390, t391, t392⟩, A50, H⟩ := H
            replace H : (if t392 = 0 then ((record_Get.f k1 t390).bind fun bt395 => (if bt395.2.2.2.2.2.2 = 0 then (if bt395.2.2.2.2.2.1 = (t390.length : Int) then (if bt395.1 ≤ x6_1 then (some (x4_1, x5_1)) else (if x4_1.length < 2513169434916 then (segment_Scan.l0 k1 l0 (x4_1 ++ [(⟨bt395.1, bt395.2.1, bt395.2.2.1, bt395.2.2.2.1, bt395.2.2.2.2.1⟩ : S34)]) (wrap64 (x5_1 + t391)) bt395.1) else (none))) else (some (x4_1, x5_1))) else (some (x4_1, x5_1)))) else (some (x4_1, x5_1))) = some (r1, r2) := H
            have A5 := Aside0.mk A50
            clear A50
            by_cases c6 : t392 = 0
            · rw [if_pos c6] at H
              have c6b0 : (t392 == 0) = true := beq_iff_eq.mpr c6
              have c6b1 : (t392 != 0) = false := bne_eq_false_iff_eq.mpr c6
              clear c6
              replace H := Option.bind_eq_some_iff.mp H
              obtain ⟨⟨t395, t396, t397, t398, t399, t400, t401⟩, A70, H⟩ := H
              replace H : (if t401 = 0 then (if t400 = (t390.length : Int) then (if t395 ≤ x6_1 then (some (x4_1, x5_1)) else (if x4_1.length < 2513169434916 then (segment_Scan.l0 k1 l0 (x4_1 ++ [(⟨t395, t396, t397, t398, t399⟩ : S34)]) (wrap64 (x5_1 + t391)) t395) else (none))) else (some (x4_1, x5_1))) else (some (x4_1, x5_1))) = some (r1, r2) := H
              have A7 := Aside0.mk A70
              clear A70
              by_cases c8 : t401 = 0
              · rw [if_pos c8] at H
                have c8b0 : (t401 == 0) = true := beq_iff_eq.mpr c8
                have c8b1 : (t401 != 0) = false := bne_eq_false_iff_eq.mpr c8
                clear c8
                by_cases c9 : t400 = (t390.length : Int)
                · rw [if_pos c9] at H
                  have c9b0 : (t400 == (t390.length : Int)) = true := beq_iff_eq.mpr c9
                  have c9b1 : (t400 != (t390.length : Int)) = false := bne_eq_false_iff_eq.mpr c9
                  clear c9
                  by_cases c10 : t395 ≤ x6_1
                  · rw [if_pos c10] at H
                    have c10b0 : decide (t395 ≤ x6_1) = true := decide_eq_true c10
                    clear c10
                    simp only [Option.some.injEq, Prod.mk.injEq] at H
                    obtain ⟨rfl, rfl⟩ := H
                    obtain ⟨i011, hi011, _, hsz11, _⟩ := info_parts info5
                    obtain ⟨A11, hcut11, hA11, hC11⟩ := print_drop_of (P := Try.prog) (Value.int .u8) 0 37 5 .i64 Try.underlying37 hi011 hsz11 A0 c0 l0 x5_1 (of_decide_eq_true (by first | (with_reducible assumption) | assumption)) (of_decide_eq_true (by first | (with_reducible assumption) | assumption)) HC0.out
                    have HR389 := Aside0.mk (Kd.C_of_reads (h1 := fun _ => rfl) (hA11 _ (Kd.reads_of_C HR0.out)))
                    have HC389 := Aside0.mk hC11
                    clear hA11 hC11 hi011 hsz11
                    go_wp2_with (first | (go_at_call 39; refine calls_of_args (args' := #[.slice A11 (l0.drop (x5_1 : Int).toNat).length (c0 - x5_1.toNat)]) (by first | (rw [show (l0.drop (x5_1 : Int).toNat).length = (l0.length - x5_1.toNat) from List.length_drop] <;> rfl) | rfl) ?_; (with_reducible refine (frame_Get.calls k1 _ _ (l0.drop (x5_1 : Int).toNat) t390 t391 t392 _ ?side1 ?side2 A5.out).mono ?_); (case side1 => repeat (first | exact (Kd.C_below HR389.out HB.out) | (with_reducible refine Kd.C_alloc ?_ _) | (with_reducible refine Kd.C_drewN ?_ _) | (with_reducible refine Kd.C_drew ?_))); (case side2 => exact HC389.out); rintro e w12 ⟨v393, rfl, ho0, hb⟩; have n0_ := Aside0.mk (Kd.RB (by (with_reducible repeat (first | apply Kd.RA | apply Kd.RN | apply Kd.RD)); exact HO_4.out) hb); have n1_ := Aside0.mk (Kd.RL ho0 (vZ (by repeat (first | (with_reducible first | exact HB.out | apply vA | apply vN | apply vD) | exact HB.out)))); have n2_ := Aside0.mk (vT (by repeat (first | (with_reducible first | exact HB.out | apply vA | apply vN | apply vD) | exact HB.out)) hb); clear HO_4; clear HB; have HO_4 := n0_; have HO394 := n1_; have HB := n2_; clear n0_ n1_ n2_; (try clear hb); (try clear hb2); (try clear hk); (try clear hi); (try clear ho0); obtain ⟨Ao13, co13, eo13⟩ := Kd.R_slice HO394.out; subst eo13) | (go_at_call 40; (with_reducible refine (record_Get.calls k1 _ _ t390 t395 t396 t397 t398 t399 t400 t401 _ ?side1 ?side2 A7.out).mono ?_); (case side1 => repeat (first | exact (Kd.R_reads' HO394.out).2.2 | (with_reducible refine Kd.C_alloc ?_ _) | (with_reducible refine Kd.C_drewN ?_ _) | (with_reducible refine Kd.C_drew ?_))); (case side2 => exact (Kd.R_reads' HO394.out).2.1); rintro e w14 ⟨rfl, hb⟩; have n0_ := Aside0.mk (Kd.RB (by (with_reducible repeat (first | apply Kd.RA | apply Kd.RN | apply Kd.RD)); exact HO_4.out) hb); have n1_ := Aside0.mk (Kd.RB (by (with_reducible repeat (first | apply Kd.RA | apply Kd.RN | apply Kd.RD)); exact HO394.out) hb); have n2_ := Aside0.mk (vT (by repeat (first | (with_reducible first | exact HB.out | apply vA | apply vN | apply vD) | exact HB.out)) hb); clear HO_4; clear HO394; clear HB; have HO_4 := n0_; have HO394 := n1_; have HB := n2_; clear n0_ n1_ n2_; (try clear hb); (try clear hb2); (try clear hk); (try clear hi)) | ((with_reducible refine gate_dst (N := 10) rfl ?_); (try (refine gate_guard (by rfl) ?_; dsimp only)); refine box_event ?hg (N := 10) ?hd (cs := #[.int .i64 0, .int .i64 0, .string (⟨#[]⟩ : ByteArray), .string (⟨#[]⟩ : ByteArray), .bool false]) (t := 34) ?hr ?_; (case hd => rfl); (case hg => rfl); (case hr => first | (go_simp; done) | (go_simp; rfl)); intro gb402 hg w15 hbox hb; have n0_ := Aside0.mk (Kd.RB (Kd.R_elderB (by (with_reducible repeat (first | apply Kd.RA | apply Kd.RN | apply Kd.RD)); exact HO_4.out) gb402 (Nat.le_of_eq hg.symm)) hb); have n1_ := Aside0.mk (Kd.RB (by (with_reducible repeat (first | apply Kd.RA | apply Kd.RN | apply Kd.RD)); exact HO394.out) hb); have n2_ := Aside0.mk (vT (by repeat (first | (with_reducible first | exact HB.out | apply vA | apply vN | apply vD) | exact HB.out)) hb); have n3_ := Aside0.mk (hbox); have n4_ := Aside0.mk ((by rw [hg]; exact (vZ (by repeat (first | (with_reducible first | exact HB.out | apply vA | apply vN | apply vD) | exact HB.out))) : w.heap.size ≤ gb402)); have n5_ := Aside0.mk ((by rw [hg]; exact (vZ (by repeat (first | (with_reducible first | exact HB.out | apply vA | apply vN | apply vD) | exact HB.out))) : w.heap.size ≤ gb402)); clear HO_4; clear HO394; clear HB; have HO_4 := n0_; have HO394 := n1_; have HB := n2_; have BK402 := n3_; have GW402 := n4_; have GE402 := n5_; clear n0_ n1_ n2_ n3_ n4_ n5_; clear hb hbox hg; have hcz16_0 : w15.cell? ⟨gb402, 0, none⟩ = some (.int .i64 0) := (bC BK402.out 0).trans rfl; have hcz16_1 : w15.cell? ⟨gb402, 1, none⟩ = some (.int .i64 0) := (bC BK402.out 1).trans rfl; have hcz16_2 : w15.cell? ⟨gb402, 2, none⟩ = some (.string (⟨#[]⟩ : ByteArray)) := (bC BK402.out 2).trans rfl; have hcz16_3 : w15.cell? ⟨gb402, 3, none⟩ = some (.string (⟨#[]⟩ : ByteArray)) := (bC BK402.out 3).trans rfl; have hcz16_4 : w15.cell? ⟨gb402, 4, none⟩ = some (.bool false) := (bC BK402.out 4).trans rfl; have hfz16_0 := bF BK402.out 0; have hfz16_1 := bF BK402.out 1; have hfz16_2 := bF BK402.out 2; have hfz16_3 := bF BK402.out 3; have hfz16_4 := bF BK402.out 4))
                    repeat (go_quiet (fail); try go_wp2)
                    go_ret2
                    exact ⟨_, by first | rfl | (simp [*, eN, eS] <;> rfl) | (simp [eN, eS]; generalize ByteArray.toList _ = l_; cases l_ <;> rfl), by (with_reducible repeat (first | apply Kd.RA | apply Kd.RN | apply Kd.RD)); exact Kd.RM (Kd.RF (p := ⟨gb402, 4, none⟩) (Kd.RF (p := ⟨gb402, 3, none⟩) (Kd.RF (p := ⟨gb402, 2, none⟩) (Kd.RF (p := ⟨gb402, 1, none⟩) (Kd.RF (p := ⟨gb402, 0, none⟩) (Kd.RM HO_4.out (fun k_ hk => (⟨hk, hk.2⟩ : _ ∧ k_ ≠ gb402))) (fun _ hk => hk.2) (.int .i64 t395)) (fun _ hk => hk.2) (.int .i64 t396)) (fun _ hk => hk.2) (.string t397)) (fun _ hk => hk.2) (.string t398)) (fun _ hk => hk.2) (.bool t399)) (fun _ hk => trivial), by repeat (first | (with_reducible first | exact HB.out | apply vA | apply vN | apply vD | refine vS ?_ GE402.out) | exact HB.out)⟩
                  · rw [if_neg c10] at H
                    have c10b0 : decide (t395 ≤ x6_1) = false := decide_eq_false c10
                    clear c10
                    by_cases c17 : x4_1.length < 2513169434916
                    · rw [if_pos c17] at H
                      have LMc17 := Aside0.mk c17
                      clear c17
                      obtain ⟨y403, hy403⟩ : ∃ y_ : List (S34), y_ = (x4_1 ++ [(⟨t395, t396, t397, t398, t399⟩ : S34)]) := ⟨_, rfl⟩
                      replace H : (segment_Scan.l0 k1 l0 y403 (wrap64 (x5_1 + t391)) t395) = some (r1, r2) := by first | (rw [hy403]; with_reducible exact H) | (have H2_ := (Option.bind_some _ _).symm.trans H; rw [hy403]; with_reducible exact H2_) | (have H2_ := (Option.bind_some _ _).symm.trans H; with_reducible exact H2_) | with_reducible exact H | (rw [hy403]; exact H) | exact H
                      have Ny403 := Aside0.mk hy403
                      clear hy403
                      have H' := Aside0.mk H
                      clear H
                      obtain ⟨i018, hi018, _, hsz18, _⟩ := info_parts info5
                      obtain ⟨A18, hcut18, hA18, hC18⟩ := print_drop_of (P := Try.prog) (Value.int .u8) 0 37 5 .i64 Try.underlying37 hi018 hsz18 A0 c0 l0 x5_1 (of_decide_eq_true (by first | (with_reducible assumption) | assumption)) (of_decide_eq_true (by first | (with_reducible assumption) | assumption)) HC0.out
                      have HR389 := Aside0.mk (Kd.C_of_reads (h1 := fun _ => rfl) (hA18 _ (Kd.reads_of_C HR0.out)))
                      have HC389 := Aside0.mk hC18
                      clear hA18 hC18 hi018 hsz18
                      go_wp2_with (first | (go_at_call 39; refine calls_of_args (args' := #[.slice A18 (l0.drop (x5_1 : Int).toNat).length (c0 - x5_1.toNat)]) (by first | (rw [show (l0.drop (x5_1 : Int).toNat).length = (l0.length - x5_1.toNat) from List.length_drop] <;> rfl) | rfl) ?_; (with_reducible refine (frame_Get.calls k1 _ _ (l0.drop (x5_1 : Int).toNat) t390 t391 t392 _ ?side1 ?side2 A5.out).mono ?_); (case side1 => repeat (first | exact (Kd.C_below HR389.out HB.out) | (with_reducible refine Kd.C_alloc ?_ _) | (with_reducible refine Kd.C_drewN ?_ _) | (with_reducible refine Kd.C_drew ?_))); (case side2 => exact HC389.out); rintro e w19 ⟨v393, rfl, ho0, hb⟩; have n0_ := Aside0.mk (Kd.RB (by (with_reducible repeat (first | apply Kd.RA | apply Kd.RN | apply Kd.RD)); exact HO_4.out) hb); have n1_ := Aside0.mk (Kd.RL ho0 (vZ (by repeat (first | (with_reducible first | exact HB.out | apply vA | apply vN | apply vD) | exact HB.out)))); have n2_ := Aside0.mk (vT (by repeat (first | (with_reducible first | exact HB.out | apply vA | apply vN | apply vD) | exact HB.out)) hb); clear HO_4; clear HB; have HO_4 := n0_; have HO394 := n1_; have HB := n2_; clear n0_ n1_ n2_; (try clear hb); (try clear hb2); (try clear hk); (try clear hi); (try clear ho0); obtain ⟨Ao20, co20, eo20⟩ := Kd.R_slice HO394.out; subst eo20) | (go_at_call 40; (with_reducible refine (record_Get.calls k1 _ _ t390 t395 t396 t397 t398 t399 t400 t401 _ ?side1 ?side2 A7.out).mono ?_); (case side1 => repeat (first | exact (Kd.R_reads' HO394.out).2.2 | (with_reducible refine Kd.C_alloc ?_ _) | (with_reducible refine Kd.C_drewN ?_ _) | (with_reducible refine Kd.C_drew ?_))); (case side2 => exact (Kd.R_reads' HO394.out).2.1); rintro e w21 ⟨rfl, hb⟩; have n0_ := Aside0.mk (Kd.RB (by (with_reducible repeat (first | apply Kd.RA | apply Kd.RN | apply Kd.RD)); exact HO_4.out) hb); have n1_ := Aside0.mk (Kd.RB (by (with_reducible repeat (first | apply Kd.RA | apply Kd.RN | apply Kd.RD)); exact HO394.out) hb); have n2_ := Aside0.mk (vT (by repeat (first | (with_reducible first | exact HB.out | apply vA | apply vN | apply vD) | exact HB.out)) hb); clear HO_4; clear HO394; clear HB; have HO_4 := n0_; have HO394 := n1_; have HB := n2_; clear n0_ n1_ n2_; (try clear hb); (try clear hb2); (try clear hk); (try clear hi)) | ((with_reducible refine gate_dst (N := 10) rfl ?_); (try (refine gate_guard (by rfl) ?_; dsimp only)); refine box_event ?hg (N := 10) ?hd (cs := #[.int .i64 0, .int .i64 0, .string (⟨#[]⟩ : ByteArray), .string (⟨#[]⟩ : ByteArray), .bool false]) (t := 34) ?hr ?_; (case hd => rfl); (case hg => rfl); (case hr => first | (go_simp; done) | (go_simp; rfl)); intro gb402 hg w22 hbox hb; have n0_ := Aside0.mk (Kd.RB (Kd.R_elderB (by (with_reducible repeat (first | apply Kd.RA | apply Kd.RN | apply Kd.RD)); exact HO_4.out) gb402 (Nat.le_of_eq hg.symm)) hb); have n1_ := Aside0.mk (Kd.RB (by (with_reducible repeat (first | apply Kd.RA | apply Kd.RN | apply Kd.RD)); exact HO394.out) hb); have n2_ := Aside0.mk (vT (by repeat (first | (with_reducible first | exact HB.out | apply vA | apply vN | apply vD) | exact HB.out)) hb); have n3_ := Aside0.mk (hbox); have n4_ := Aside0.mk ((by rw [hg]; exact (vZ (by repeat (first | (with_reducible first | exact HB.out | apply vA | apply vN | apply vD) | exact HB.out))) : w.heap.size ≤ gb402)); have n5_ := Aside0.mk ((by rw [hg]; exact (vZ (by repeat (first | (with_reducible first | exact HB.out | apply vA | apply vN | apply vD) | exact HB.out))) : w.heap.size ≤ gb402)); clear HO_4; clear HO394; clear HB; have HO_4 := n0_; have HO394 := n1_; have HB := n2_; have BK402 := n3_; have GW402 := n4_; have GE402 := n5_; clear n0_ n1_ n2_ n3_ n4_ n5_; clear hb hbox hg; have hcz23_0 : w22.cell? ⟨gb402, 0, none⟩ = some (.int .i64 0) := (bC BK402.out 0).trans rfl; have hcz23_1 : w22.cell? ⟨gb402, 1, none⟩ = some (.int .i64 0) := (bC BK402.out 1).trans rfl; have hcz23_2 : w22.cell? ⟨gb402, 2, none⟩ = some (.string (⟨#[]⟩ : ByteArray)) := (bC BK402.out 2).trans rfl; have hcz23_3 : w22.cell? ⟨gb402, 3, none⟩ = some (.string (⟨#[]⟩ : ByteArray)) := (bC BK402.out 3).trans rfl; have hcz23_4 : w22.cell? ⟨gb402, 4, none⟩ = some (.bool false) := (bC BK402.out 4).trans rfl; have hfz23_0 := bF BK402.out 0; have hfz23_1 := bF BK402.out 1; have hfz23_2 := bF BK402.out 2; have hfz23_3 := bF BK402.out 3; have hfz23_4 := bF BK402.out 4) | ((with_reducible refine gate_builtin (b := .append) (xs := #[(.tmp 46), .tmp 48]) rfl ?_); (try (refine gate_guard (by rfl) ?_; dsimp only)); at_builtin; refine Kd.R_append k34 (w0 := w) w.heap.size rfl (.tmp 46) (.tmp 48) 22 34 (.agg #[(.int .i64 0), (.int .i64 0), (.string ⟨#[]⟩), (.string ⟨#[]⟩), (.bool false)]) 56 rfl Try.underlying22 info34 rfl (by decide) (by omega) u4 x4_1 (⟨t395, t396, t397, t398, t399⟩ : S34) [.int .i64 t395, .int .i64 t396, .string t397, .string t398, .bool t399] (fun k_ => k_ ≠ gb402) (fun _ => False) rfl (by first | (go_simp; done) | (go_simp; rfl)) ?aP (fun _ hk => hk.elim) ?aF ?aO ?aB ?aS ?aL ?_; (case aP => exact k34_mkM _ _ _ (⟨t395, t396, t397, t398, t399⟩ : S34)); (case aB => exact (by repeat (first | (with_reducible first | exact HB.out | apply vA | apply vN | apply vD | refine vS ?_ GE402.out) | exact HB.out))); (case aF => exact (fun k_ hk => Kd.freshB (g := gb402) (o := .cells #[.int .i64 t395, .int .i64 t396, .string t397, .string t398, .bool t399] 34 (0, 0)) (by (with_reducible repeat (first | refine bN ?_ _ | refine bD ?_ | refine bA ?_ _)); refine bP (cs := #[.int .i64 t395, .int .i64 t396, .string t397, .string t398, .bool false]) ?_ 4 _ rfl; (with_reducible repeat (first | refine bN ?_ _ | refine bD ?_ | refine bA ?_ _)); refine bP (cs := #[.int .i64 t395, .int .i64 t396, .string t397, .string (⟨#[]⟩ : ByteArray), .bool false]) ?_ 3 _ rfl; (with_reducible repeat (first | refine bN ?_ _ | refine bD ?_ | refine bA ?_ _)); refine bP (cs := #[.int .i64 t395, .int .i64 t396, .string (⟨#[]⟩ : ByteArray), .string (⟨#[]⟩ : ByteArray), .bool false]) ?_ 2 _ rfl; (with_reducible repeat (first | refine bN ?_ _ | refine bD ?_ | refine bA ?_ _)); refine bP (cs := #[.int .i64 t395, .int .i64 0, .string (⟨#[]⟩ : ByteArray), .string (⟨#[]⟩ : ByteArray), .bool false]) ?_ 1 _ rfl; (with_reducible repeat (first | refine bN ?_ _ | refine bD ?_ | refine bA ?_ _)); refine bP (cs := #[.int .i64 0, .int .i64 0, .string (⟨#[]⟩ : ByteArray), .string (⟨#[]⟩ : ByteArray), .bool false]) ?_ 0 _ rfl; (with_reducible repeat (first | refine bN ?_ _ | refine bD ?_ | refine bA ?_ _)); exact BK402.out) k_ hk)); (case aO => exact (by (with_reducible repeat (first | apply Kd.RA | apply Kd.RN | apply Kd.RD)); exact Kd.RM (Kd.RF (p := ⟨gb402, 4, none⟩) (Kd.RF (p := ⟨gb402, 3, none⟩) (Kd.RF (p := ⟨gb402, 2, none⟩) (Kd.RF (p := ⟨gb402, 1, none⟩) (Kd.RF (p := ⟨gb402, 0, none⟩) (Kd.RM HO_4.out (fun k_ hk => (⟨hk, hk.2⟩ : _ ∧ k_ ≠ gb402))) (fun _ hk => hk.2) (.int .i64 t395)) (fun _ hk => hk.2) (.int .i64 t396)) (fun _ hk => hk.2) (.string t397)) (fun _ hk => hk.2) (.string t398)) (fun _ hk => hk.2) (.bool t399)) (fun _ hk => hk.1.2))); (case aS => exact (vZ (by repeat (first | (with_reducible first | exact HB.out | apply vA | apply vN | apply vD | refine vS ?_ GE402.out) | exact HB.out)))); (case aL => have := LMc17.out; omega); intro v404 w24 ho hb hg hat; rw [← Ny403.out] at ho; have n0_ := Aside0.mk (Kd.R_over' (by (with_reducible repeat (first | apply Kd.RA | apply Kd.RN | apply Kd.RD)); exact (Kd.RM (Kd.RF (p := ⟨gb402, 4, none⟩) (Kd.RF (p := ⟨gb402, 3, none⟩) (Kd.RF (p := ⟨gb402, 2, none⟩) (Kd.RF (p := ⟨gb402, 1, none⟩) (Kd.RF (p := ⟨gb402, 0, none⟩) (Kd.R_types HO394.out BK402.out (by decide)) (fun _ hk => hk.2) (.int .i64 t395)) (fun _ hk => hk.2) (.int .i64 t396)) (fun _ hk => hk.2) (.string t397)) (fun _ hk => hk.2) (.string t398)) (fun _ hk => hk.2) (.bool t399)) (fun _ h_ => h_.1))) (Kd.R_typed (by (with_reducible repeat (first | apply Kd.RA | apply Kd.RN | apply Kd.RD)); exact (Kd.RM (Kd.RF (p := ⟨gb402, 4, none⟩) (Kd.RF (p := ⟨gb402, 3, none⟩) (Kd.RF (p := ⟨gb402, 2, none⟩) (Kd.RF (p := ⟨gb402, 1, none⟩) (Kd.RF (p := ⟨gb402, 0, none⟩) (Kd.RM HO_4.out (fun k_ hk => (⟨hk, hk.2⟩ : _ ∧ k_ ≠ gb402))) (fun _ hk => hk.2) (.int .i64 t395)) (fun _ hk => hk.2) (.int .i64 t396)) (fun _ hk => hk.2) (.string t397)) (fun _ hk => hk.2) (.string t398)) (fun _ hk => hk.2) (.bool t399)) (fun _ h_ => h_.1)))) (by decide) hg); have n1_ := Aside0.mk (blk_grown (g := gb402) (o := .cells #[.int .i64 t395, .int .i64 t396, .string t397, .string t398, .bool t399] 34 (0, 0)) (by (with_reducible repeat (first | refine bN ?_ _ | refine bD ?_ | refine bA ?_ _)); refine bP (cs := #[.int .i64 t395, .int .i64 t396, .string t397, .string t398, .bool false]) ?_ 4 _ rfl; (with_reducible repeat (first | refine bN ?_ _ | refine bD ?_ | refine bA ?_ _)); refine bP (cs := #[.int .i64 t395, .int .i64 t396, .string t397, .string (⟨#[]⟩ : ByteArray), .bool false]) ?_ 3 _ rfl; (with_reducible repeat (first | refine bN ?_ _ | refine bD ?_ | refine bA ?_ _)); refine bP (cs := #[.int .i64 t395, .int .i64 t396, .string (⟨#[]⟩ : ByteArray), .string (⟨#[]⟩ : ByteArray), .bool false]) ?_ 2 _ rfl; (with_reducible repeat (first | refine bN ?_ _ | refine bD ?_ | refine bA ?_ _)); refine bP (cs := #[.int .i64 t395, .int .i64 0, .string (⟨#[]⟩ : ByteArray), .string (⟨#[]⟩ : ByteArray), .bool false]) ?_ 1 _ rfl; (with_reducible repeat (first | refine bN ?_ _ | refine bD ?_ | refine bA ?_ _)); refine bP (cs := #[.int .i64 0, .int .i64 0, .string (⟨#[]⟩ : ByteArray), .string (⟨#[]⟩ : ByteArray), .bool false]) ?_ 0 _ rfl; (with_reducible repeat (first | refine bN ?_ _ | refine bD ?_ | refine bA ?_ _)); exact BK402.out) hg (Kd.R_away HO_4.out (fun _ hk => hk.2))); have n2_ := Aside0.mk (hb); have n3_ := Aside0.mk (ho); clear HO394; clear BK402; clear HB; clear HO_4; have HO394 := n0_; have BK402 := n1_; have HB := n2_; have HO405 := n3_; clear n0_ n1_ n2_ n3_; clear ho hb hg hat; have hcz25_0 : w24.cell? ⟨gb402, 0, none⟩ = some (.int .i64 t395) := (bC BK402.out 0).trans rfl; have hcz25_1 : w24.cell? ⟨gb402, 1, none⟩ = some (.int .i64 t396) := (bC BK402.out 1).trans rfl; have hcz25_2 : w24.cell? ⟨gb402, 2, none⟩ = some (.string t397) := (bC BK402.out 2).trans rfl; have hcz25_3 : w24.cell? ⟨gb402, 3, none⟩ = some (.string t398) := (bC BK402.out 3).trans rfl; have hcz25_4 : w24.cell? ⟨gb402, 4, none⟩ = some (.bool t399) := (bC BK402.out 4).trans rfl; have hfz25_0 := bF BK402.out 0; have hfz25_1 := bF BK402.out 1; have hfz25_2 := bF BK402.out 2; have hfz25_3 := bF BK402.out 3; have hfz25_4 := bF BK402.out 4))
                      repeat (go_quiet (fail); try go_wp2)
                      go_roundg k1
                      case measure => have := HK1.out; omega
                      case rel => exact ⟨(y403), (wrap64 (x5_1 + t391)), (t395), (by first | rfl | (simp; done) | (simp [*]; done)), (by first | rfl | (simp; done) | (simp [*]; done)), H', ⟨by have := HK1.out; omega⟩, ⟨by (with_reducible repeat (first | apply Kd.RA | apply Kd.RN | apply Kd.RD)); exact Kd.RM HO405.out (fun _ hk => trivial)⟩, ⟨by repeat (first | (with_reducible first | exact HB.out | apply vA | apply vN | apply vD | refine vS ?_ GE402.out) | exact HB.out)⟩⟩
                    · rw [if_neg c17] at H
                      exact absurd H (by simp)
                · rw [if_neg c9] at H
                  have c9b0 : (t400 == (t390.length : Int)) = false := beq_eq_false_iff_ne.mpr c9
                  have c9b1 : (t400 != (t390.length : Int)) = true := bne_iff_ne.mpr c9
                  simp only [Option.some.injEq, Prod.mk.injEq] at H
                  obtain ⟨rfl, rfl⟩ := H
                  obtain ⟨i026, hi026, _, hsz26, _⟩ := info_parts info5
                  obtain ⟨A26, hcut26, hA26, hC26⟩ := print_drop_of (P := Try.prog) (Value.int .u8) 0 37 5 .i64 Try.underlying37 hi026 hsz26 A0 c0 l0 x5_1 (of_decide_eq_true (by first | (with_reducible assumption) | assumption)) (of_decide_eq_true (by first | (with_reducible assumption) | assumption)) HC0.out
                  have HR389 := Aside0.mk (Kd.C_of_reads (h1 := fun _ => rfl) (hA26 _ (Kd.reads_of_C HR0.out)))
                  have HC389 := Aside0.mk hC26
                  clear hA26 hC26 hi026 hsz26
                  go_wp2_with (first | (go_at_call 39; refine calls_of_args (args' := #[.slice A26 (l0.drop (x5_1 : Int).toNat).length (c0 - x5_1.toNat)]) (by first | (rw [show (l0.drop (x5_1 : Int).toNat).length = (l0.length - x5_1.toNat) from List.length_drop] <;> rfl) | rfl) ?_; (with_reducible refine (frame_Get.calls k1 _ _ (l0.drop (x5_1 : Int).toNat) t390 t391 t392 _ ?side1 ?side2 A5.out).mono ?_); (case side1 => repeat (first | exact (Kd.C_below HR389.out HB.out) | (with_reducible refine Kd.C_alloc ?_ _) | (with_reducible refine Kd.C_drewN ?_ _) | (with_reducible refine Kd.C_drew ?_))); (case side2 => exact HC389.out); rintro e w27 ⟨v393, rfl, ho0, hb⟩; have n0_ := Aside0.mk (Kd.RB (by (with_reducible repeat (first | apply Kd.RA | apply Kd.RN | apply Kd.RD)); exact HO_4.out) hb); have n1_ := Aside0.mk (Kd.RL ho0 (vZ (by repeat (first | (with_reducible first | exact HB.out | apply vA | apply vN | apply vD) | exact HB.out)))); have n2_ := Aside0.mk (vT (by repeat (first | (with_reducible first | exact HB.out | apply vA | apply vN | apply vD) | exact HB.out)) hb); clear HO_4; clear HB; have HO_4 := n0_; have HO394 := n1_; have HB := n2_; clear n0_ n1_ n2_; (try clear hb); (try clear hb2); (try clear hk); (try clear hi); (try clear ho0); obtain ⟨Ao28, co28, eo28⟩ := Kd.R_slice HO394.out; subst eo28) | (go_at_call 40; (with_reducible refine (record_Get.calls k1 _ _ t390 t395 t396 t397 t398 t399 t400 t401 _ ?side1 ?side2 A7.out).mono ?_); (case side1 => repeat (first | exact (Kd.R_reads' HO394.out).2.2 | (with_reducible refine Kd.C_alloc ?_ _) | (with_reducible refine Kd.C_drewN ?_ _) | (with_reducible refine Kd.C_drew ?_))); (case side2 => exact (Kd.R_reads' HO394.out).2.1); rintro e w29 ⟨rfl, hb⟩; have n0_ := Aside0.mk (Kd.RB (by (with_reducible repeat (first | apply Kd.RA | apply Kd.RN | apply Kd.RD)); exact HO_4.out) hb); have n1_ := Aside0.mk (Kd.RB (by (with_reducible repeat (first | apply Kd.RA | apply Kd.RN | apply Kd.RD)); exact HO394.out) hb); have n2_ := Aside0.mk (vT (by repeat (first | (with_reducible first | exact HB.out | apply vA | apply vN | apply vD) | exact HB.out)) hb); clear HO_4; clear HO394; clear HB; have HO_4 := n0_; have HO394 := n1_; have HB := n2_; clear n0_ n1_ n2_; (try clear hb); (try clear hb2); (try clear hk); (try clear hi)) | ((with_reducible refine gate_dst (N := 10) rfl ?_); (try (refine gate_guard (by rfl) ?_; dsimp only)); refine box_event ?hg (N := 10) ?hd (cs := #[.int .i64 0, .int .i64 0, .string (⟨#[]⟩ : ByteArray), .string (⟨#[]⟩ : ByteArray), .bool false]) (t := 34) ?hr ?_; (case hd => rfl); (case hg => rfl); (case hr => first | (go_simp; done) | (go_simp; rfl)); intro gb402 hg w30 hbox hb; have n0_ := Aside0.mk (Kd.RB (Kd.R_elderB (by (with_reducible repeat (first | apply Kd.RA | apply Kd.RN | apply Kd.RD)); exact HO_4.out) gb402 (Nat.le_of_eq hg.symm)) hb); have n1_ := Aside0.mk (Kd.RB (by (with_reducible repeat (first | apply Kd.RA | apply Kd.RN | apply Kd.RD)); exact HO394.out) hb); have n2_ := Aside0.mk (vT (by repeat (first | (with_reducible first | exact HB.out | apply vA | apply vN | apply vD) | exact HB.out)) hb); have n3_ := Aside0.mk (hbox); have n4_ := Aside0.mk ((by rw [hg]; exact (vZ (by repeat (first | (with_reducible first | exact HB.out | apply vA | apply vN | apply vD) | exact HB.out))) : w.heap.size ≤ gb402)); have n5_ := Aside0.mk ((by rw [hg]; exact (vZ (by repeat (first | (with_reducible first | exact HB.out | apply vA | apply vN | apply vD) | exact HB.out))) : w.heap.size ≤ gb402)); clear HO_4; clear HO394; clear HB; have HO_4 := n0_; have HO394 := n1_; have HB := n2_; have BK402 := n3_; have GW402 := n4_; have GE402 := n5_; clear n0_ n1_ n2_ n3_ n4_ n5_; clear hb hbox hg; have hcz31_0 : w30.cell? ⟨gb402, 0, none⟩ = some (.int .i64 0) := (bC BK402.out 0).trans rfl; have hcz31_1 : w30.cell? ⟨gb402, 1, none⟩ = some (.int .i64 0) := (bC BK402.out 1).trans rfl; have hcz31_2 : w30.cell? ⟨gb402, 2, none⟩ = some (.string (⟨#[]⟩ : ByteArray)) := (bC BK402.out 2).trans rfl; have hcz31_3 : w30.cell? ⟨gb402, 3, none⟩ = some (.string (⟨#[]⟩ : ByteArray)) := (bC BK402.out 3).trans rfl; have hcz31_4 : w30.cell? ⟨gb402, 4, none⟩ = some (.bool false) := (bC BK402.out 4).trans rfl; have hfz31_0 := bF BK402.out 0; have hfz31_1 := bF BK402.out 1; have hfz31_2 := bF BK402.out 2; have hfz31_3 := bF BK402.out 3; have hfz31_4 := bF BK402.out 4))
                  repeat (go_quiet (fail); try go_wp2)
                  go_ret2
                  exact ⟨_, by first | rfl | (simp [*, eN, eS] <;> rfl) | (simp [eN, eS]; generalize ByteArray.toList _ = l_; cases l_ <;> rfl), by (with_reducible repeat (first | apply Kd.RA | apply Kd.RN | apply Kd.RD)); exact Kd.RM (Kd.RF (p := ⟨gb402, 4, none⟩) (Kd.RF (p := ⟨gb402, 3, none⟩) (Kd.RF (p := ⟨gb402, 2, none⟩) (Kd.RF (p := ⟨gb402, 1, none⟩) (Kd.RF (p := ⟨gb402, 0, none⟩) (Kd.RM HO_4.out (fun k_ hk => (⟨hk, hk.2⟩ : _ ∧ k_ ≠ gb402))) (fun _ hk => hk.2) (.int .i64 t395)) (fun _ hk => hk.2) (.int .i64 t396)) (fun _ hk => hk.2) (.string t397)) (fun _ hk => hk.2) (.string t398)) (fun _ hk => hk.2) (.bool t399)) (fun _ hk => trivial), by repeat (first | (with_reducible first | exact HB.out | apply vA | apply vN | apply vD | refine vS ?_ GE402.out) | exact HB.out)⟩
              · rw [if_neg c8] at H
                have c8b0 : (t401 == 0) = false := beq_eq_false_iff_ne.mpr c8
                have c8b1 : (t401 != 0) = true := bne_iff_ne.mpr c8
                simp only [Option.some.injEq, Prod.mk.injEq] at H
                obtain ⟨rfl, rfl⟩ := H
                obtain ⟨i032, hi032, _, hsz32, _⟩ := info_parts info5
                obtain ⟨A32, hcut32, hA32, hC32⟩ := print_drop_of (P := Try.prog) (Value.int .u8) 0 37 5 .i64 Try.underlying37 hi032 hsz32 A0 c0 l0 x5_1 (of_decide_eq_true (by first | (with_reducible assumption) | assumption)) (of_decide_eq_true (by first | (with_reducible assumption) | assumption)) HC0.out
                have HR389 := Aside0.mk (Kd.C_of_reads (h1 := fun _ => rfl) (hA32 _ (Kd.reads_of_C HR0.out)))
                have HC389 := Aside0.mk hC32
                clear hA32 hC32 hi032 hsz32
                go_wp2_with (first | (go_at_call 39; refine calls_of_args (args' := #[.slice A32 (l0.drop (x5_1 : Int).toNat).length (c0 - x5_1.toNat)]) (by first | (rw [show (l0.drop (x5_1 : Int).toNat).length = (l0.length - x5_1.toNat) from List.length_drop] <;> rfl) | rfl) ?_; (with_reducible refine (frame_Get.calls k1 _ _ (l0.drop (x5_1 : Int).toNat) t390 t391 t392 _ ?side1 ?side2 A5.out).mono ?_); (case side1 => repeat (first | exact (Kd.C_below HR389.out HB.out) | (with_reducible refine Kd.C_alloc ?_ _) | (with_reducible refine Kd.C_drewN ?_ _) | (with_reducible refine Kd.C_drew ?_))); (case side2 => exact HC389.out); rintro e w33 ⟨v393, rfl, ho0, hb⟩; have n0_ := Aside0.mk (Kd.RB (by (with_reducible repeat (first | apply Kd.RA | apply Kd.RN | apply Kd.RD)); exact HO_4.out) hb); have n1_ := Aside0.mk (Kd.RL ho0 (vZ (by repeat (first | (with_reducible first | exact HB.out | apply vA | apply vN | apply vD) | exact HB.out)))); have n2_ := Aside0.mk (vT (by repeat (first | (with_reducible first | exact HB.out | apply vA | apply vN | apply vD) | exact HB.out)) hb); clear HO_4; clear HB; have HO_4 := n0_; have HO394 := n1_; have HB := n2_; clear n0_ n1_ n2_; (try clear hb); (try clear hb2); (try clear hk); (try clear hi); (try clear ho0); obtain ⟨Ao34, co34, eo34⟩ := Kd.R_slice HO394.out; subst eo34) | (go_at_call 40; (with_reducible refine (record_Get.calls k1 _ _ t390 t395 t396 t397 t398 t399 t400 t401 _ ?side1 ?side2 A7.out).mono ?_); (case side1 => repeat (first | exact (Kd.R_reads' HO394.out).2.2 | (with_reducible refine Kd.C_alloc ?_ _) | (with_reducible refine Kd.C_drewN ?_ _) | (with_reducible refine Kd.C_drew ?_))); (case side2 => exact (Kd.R_reads' HO394.out).2.1); rintro e w35 ⟨rfl, hb⟩; have n0_ := Aside0.mk (Kd.RB (by (with_reducible repeat (first | apply Kd.RA | apply Kd.RN | apply Kd.RD)); exact HO_4.out) hb); have n1_ := Aside0.mk (Kd.RB (by (with_reducible repeat (first | apply Kd.RA | apply Kd.RN | apply Kd.RD)); exact HO394.out) hb); have n2_ := Aside0.mk (vT (by repeat (first | (with_reducible first | exact HB.out | apply vA | apply vN | apply vD) | exact HB.out)) hb); clear HO_4; clear HO394; clear HB; have HO_4 := n0_; have HO394 := n1_; have HB := n2_; clear n0_ n1_ n2_; (try clear hb); (try clear hb2); (try clear hk); (try clear hi)) | ((with_reducible refine gate_dst (N := 10) rfl ?_); (try (refine gate_guard (by rfl) ?_; dsimp only)); refine box_event ?hg (N := 10) ?hd (cs := #[.int .i64 0, .int .i64 0, .string (⟨#[]⟩ : ByteArray), .string (⟨#[]⟩ : ByteArray), .bool false]) (t := 34) ?hr ?_; (case hd => rfl); (case hg => rfl); (case hr => first | (go_simp; done) | (go_simp; rfl)); intro gb402 hg w36 hbox hb; have n0_ := Aside0.mk (Kd.RB (Kd.R_elderB (by (with_reducible repeat (first | apply Kd.RA | apply Kd.RN | apply Kd.RD)); exact HO_4.out) gb402 (Nat.le_of_eq hg.symm)) hb); have n1_ := Aside0.mk (Kd.RB (by (with_reducible repeat (first | apply Kd.RA | apply Kd.RN | apply Kd.RD)); exact HO394.out) hb); have n2_ := Aside0.mk (vT (by repeat (first | (with_reducible first | exact HB.out | apply vA | apply vN | apply vD) | exact HB.out)) hb); have n3_ := Aside0.mk (hbox); have n4_ := Aside0.mk ((by rw [hg]; exact (vZ (by repeat (first | (with_reducible first | exact HB.out | apply vA | apply vN | apply vD) | exact HB.out))) : w.heap.size ≤ gb402)); have n5_ := Aside0.mk ((by rw [hg]; exact (vZ (by repeat (first | (with_reducible first | exact HB.out | apply vA | apply vN | apply vD) | exact HB.out))) : w.heap.size ≤ gb402)); clear HO_4; clear HO394; clear HB; have HO_4 := n0_; have HO394 := n1_; have HB := n2_; have BK402 := n3_; have GW402 := n4_; have GE402 := n5_; clear n0_ n1_ n2_ n3_ n4_ n5_; clear hb hbox hg; have hcz37_0 : w36.cell? ⟨gb402, 0, none⟩ = some (.int .i64 0) := (bC BK402.out 0).trans rfl; have hcz37_1 : w36.cell? ⟨gb402, 1, none⟩ = some (.int .i64 0) := (bC BK402.out 1).trans rfl; have hcz37_2 : w36.cell? ⟨gb402, 2, none⟩ = some (.string (⟨#[]⟩ : ByteArray)) := (bC BK402.out 2).trans rfl; have hcz37_3 : w36.cell? ⟨gb402, 3, none⟩ = some (.string (⟨#[]⟩ : ByteArray)) := (bC BK402.out 3).trans rfl; have hcz37_4 : w36.cell? ⟨gb402, 4, none⟩ = some (.bool false) := (bC BK402.out 4).trans rfl; have hfz37_0 := bF BK402.out 0; have hfz37_1 := bF BK402.out 1; have hfz37_2 := bF BK402.out 2; have hfz37_3 := bF BK402.out 3; have hfz37_4 := bF BK402.out 4))
                repeat (go_quiet (fail); try go_wp2)
                go_ret2
                exact ⟨_, by first | rfl | (simp [*, eN, eS] <;> rfl) | (simp [eN, eS]; generalize ByteArray.toList _ = l_; cases l_ <;> rfl), by (with_reducible repeat (first | apply Kd.RA | apply Kd.RN | apply Kd.RD)); exact Kd.RM (Kd.RF (p := ⟨gb402, 4, none⟩) (Kd.RF (p := ⟨gb402, 3, none⟩) (Kd.RF (p := ⟨gb402, 2, none⟩) (Kd.RF (p := ⟨gb402, 1, none⟩) (Kd.RF (p := ⟨gb402, 0, none⟩) (Kd.RM HO_4.out (fun k_ hk => (⟨hk, hk.2⟩ : _ ∧ k_ ≠ gb402))) (fun _ hk => hk.2) (.int .i64 t395)) (fun _ hk => hk.2) (.int .i64 t396)) (fun _ hk => hk.2) (.string t397)) (fun _ hk => hk.2) (.string t398)) (fun _ hk => hk.2) (.bool t399)) (fun _ hk => trivial), by repeat (first | (with_reducible first | exact HB.out | apply vA | apply vN | apply vD | refine vS ?_ GE402.out) | exact HB.out)⟩
            · rw [if_neg c6] at H
              have c6b0 : (t392 == 0) = false := beq_eq_false_iff_ne.mpr c6
              have c6b1 : (t392 != 0) = true := bne_iff_ne.mpr c6
              simp only [Option.some.injEq, Prod.mk.injEq] at H
              obtain ⟨rfl, rfl⟩ := H
              obtain ⟨i038, hi038, _, hsz38, _⟩ := info_parts info5
              obtain ⟨A38, hcut38, hA38, hC38⟩ := print_drop_of (P := Try.prog) (Value.int .u8) 0 37 5 .i64 Try.underlying37 hi038 hsz38 A0 c0 l0 x5_1 (of_decide_eq_true (by first | (with_reducible assumption) | assumption)) (of_decide_eq_true (by first | (with_reducible assumption) | assumption)) HC0.out
              have HR389 := Aside0.mk (Kd.C_of_reads (h1 := fun _ => rfl) (hA38 _ (Kd.reads_of_C HR0.out)))
              have HC389 := Aside0.mk hC38
              clear hA38 hC38 hi038 hsz38
              go_wp2_with (first | (go_at_call 39; refine calls_of_args (args' := #[.slice A38 (l0.drop (x5_1 : Int).toNat).length (c0 - x5_1.toNat)]) (by first | (rw [show (l0.drop (x5_1 : Int).toNat).length = (l0.length - x5_1.toNat) from List.length_drop] <;> rfl) | rfl) ?_; (with_reducible refine (frame_Get.calls k1 _ _ (l0.drop (x5_1 : Int).toNat) t390 t391 t392 _ ?side1 ?side2 A5.out).mono ?_); (case side1 => repeat (first | exact (Kd.C_below HR389.out HB.out) | (with_reducible refine Kd.C_alloc ?_ _) | (with_reducible refine Kd.C_drewN ?_ _) | (with_reducible refine Kd.C_drew ?_))); (case side2 => exact HC389.out); rintro e w39 ⟨v393, rfl, ho0, hb⟩; have n0_ := Aside0.mk (Kd.RB (by (with_reducible repeat (first | apply Kd.RA | apply Kd.RN | apply Kd.RD)); exact HO_4.out) hb); have n1_ := Aside0.mk (Kd.RL ho0 (vZ (by repeat (first | (with_reducible first | exact HB.out | apply vA | apply vN | apply vD) | exact HB.out)))); have n2_ := Aside0.mk (vT (by repeat (first | (with_reducible first | exact HB.out | apply vA | apply vN | apply vD) | exact HB.out)) hb); clear HO_4; clear HB; have HO_4 := n0_; have HO394 := n1_; have HB := n2_; clear n0_ n1_ n2_; (try clear hb); (try clear hb2); (try clear hk); (try clear hi); (try clear ho0)))
              repeat (go_quiet (fail); try go_wp2)
              go_ret2
              exact ⟨_, by first | rfl | (simp [*, eN, eS] <;> rfl) | (simp [eN, eS]; generalize ByteArray.toList _ = l_; cases l_ <;> rfl), by (with_reducible repeat (first | apply Kd.RA | apply Kd.RN | apply Kd.RD)); exact HO_4.out, by repeat (first | (with_reducible first | exact HB.out | apply vA | apply vN | apply vD) | exact HB.out)⟩
          · rw [if_neg c4] at H
            exact absurd H (by simp)
        · rw [if_neg c3] at H
          exact absurd H (by simp)
      · rw [if_neg c2] at H
        have c2b0 : decide (x5_1 < (l0.length : Int)) = false := decide_eq_false c2
        clear c2
        simp only [Option.some.injEq, Prod.mk.injEq] at H
        obtain ⟨rfl, rfl⟩ := H
        go_wp2
        repeat (go_quiet (fail); try go_wp2)
        go_ret2
        exact ⟨_, by first | rfl | (simp [*, eN, eS] <;> rfl) | (simp [eN, eS]; generalize ByteArray.toList _ = l_; cases l_ <;> rfl), by (with_reducible repeat (first | apply Kd.RA | apply Kd.RN | apply Kd.RD)); exact HO_4.out, by repeat (first | (with_reducible first | exact HB.out | apply vA | apply vN | apply vD) | exact HB.out)⟩
/-! ### cooperageref1_Bytes: function 18 -/
def cooperageref1_Bytes.l0 : Nat → List (S34) → List Int → Int → Option (List Int)
  | 0, _, _, _ => none
  | k + 1, x0, x3, x4 => if x4 < (x0.length : Int) then (if 0 ≤ x4 then ((cooperageref1_Right.f ((rd_T34 x0 x4).f0) ((rd_T34 x0 x4).f1) ((rd_T34 x0 x4).f2) ((rd_T34 x0 x4).f3) ((rd_T34 x0 x4).f4)).bind fun t420 => (if t420 = true then ((cooperageref1_PutRecord.f k ([] : List Int) ((rd_T34 x0 x4).f0) ((rd_T34 x0 x4).f1) ((rd_T34 x0 x4).f2) ((rd_T34 x0 x4).f3) ((rd_T34 x0 x4).f4)).bind fun t422 => ((cooperageref1_PutFrame.f k ([] : List Int) t422).bind fun t425 => (if x3.length + t425.length < 140737488355328 then (cooperageref1_Bytes.l0 k x0 (x3 ++ t425) (wrap64 (x4 + 1))) else (none)))) else (cooperageref1_Bytes.l0 k x0 x3 (wrap64 (x4 + 1))))) else (none)) else (some x3)
def cooperageref1_Bytes.f (k : Nat) (l0 : List (S34)) : Option (List Int) := cooperageref1_Bytes.l0 k l0 ([] : List Int) 0
theorem cooperageref1_Bytes.mono_l : ∀ k, (∀ y0 y1 y2, LeO (cooperageref1_Bytes.l0 k y0 y1 y2) (cooperageref1_Bytes.l0 (k + 1) y0 y1 y2))
  | 0 => fun _ _ _ r h => by simp [cooperageref1_Bytes.l0] at h
  | k + 1 => by
    have ih0 := cooperageref1_Bytes.mono_l k
    · intro y0 y1 y2
      unfold cooperageref1_Bytes.l0
      repeat' first
      | (with_reducible exact LeO.refl _)
      | (with_reducible exact LeO.none _)
      | (with_reducible refine LeO.ite ?_ ?_)
      | (with_reducible refine LeO.bind ?_ (fun _ => ?_))
      | exact ih0 _ _ _
      | exact cooperageref1_PutFrame.mono _ _ _
      | exact cooperageref1_PutRecord.mono _ _ _ _ _ _ _
      | exact LeO.none _
      | refine LeO.ite ?_ ?_
      | refine LeO.bind ?_ (fun _ => ?_)
theorem cooperageref1_Bytes.mono : ∀ a0 k, LeO (cooperageref1_Bytes.f k a0) (cooperageref1_Bytes.f (k + 1) a0) := by
  intro a0 k
  have ih0 := cooperageref1_Bytes.mono_l k
  unfold cooperageref1_Bytes.f
  repeat' first
      | (with_reducible exact LeO.refl _)
      | (with_reducible exact LeO.none _)
      | (with_reducible refine LeO.ite ?_ ?_)
      | (with_reducible refine LeO.bind ?_ (fun _ => ?_))
      | exact ih0 _ _ _
      | exact cooperageref1_PutFrame.mono _ _ _
      | exact cooperageref1_PutRecord.mono _ _ _ _ _ _ _
      | exact LeO.none _
      | refine LeO.ite ?_ ?_
      | refine LeO.bind ?_ (fun _ => ?_)
set_option maxHeartbeats 8000000 in
set_option maxRecDepth 100000 in
theorem cooperageref1_Bytes.calls (k : Nat) (A0 : Option Addr) (c0 : Nat) (l0 : List (S34)) (r : List Int) (w : World) (hr0 : Kd.C k34 w A0 l0.length l0) (hc0 : l0.length ≤ c0) (h : cooperageref1_Bytes.f k l0 = some r) :
    Calls Try.prog 18 #[.slice A0 l0.length c0] w fun e w' => ∃ v0_ : Value, e = .returned (v0_) ∧ Kd.R (Kd.int .u8) 5 w' w.heap.size (fun _ => True) v0_ r ∧ Below w.heap.size w w' := by
  have hu34 := Try.underlying34
  have HR0 := Aside0.mk hr0
  have HC0 := Aside0.mk hc0
  clear hr0 hc0
  have HB := Aside0.mk (Below.refl w.heap.size w)
  have H : (cooperageref1_Bytes.l0 k l0 ([] : List Int) 0) = some r := h
  clear h
  have H' := Aside0.mk H
  clear H
  go_enter Try.func18, Try.ntmps18
  go_wp2
  go_loopg [3, 4] k (fun kq v3 v4 w' => ∃ (x3_1 : List Int) (x4_1 : Int), v4 = .int .i64 x4_1 ∧ Aside0 (cooperageref1_Bytes.l0 kq l0 x3_1 x4_1 = some r) ∧ Aside0 (kq ≤ k) ∧ Aside0 (Kd.R (Kd.int .u8) 5 w' w.heap.size (fun _ => True) v3 x3_1) ∧ Aside0 (Below w.heap.size w w'))
  case atStart => exact ⟨(([] : List Int)), (0), (by first | rfl | (simp; done) | (simp [*]; done)), H', ⟨Nat.le_refl _⟩, ⟨by first | exact Kd.R_nil _ _ _ _ _ | exact Kd.N_nil _ _ _ _ _ | exact Kd.V_nil _ _ _ _ _ | exact Kd.Q_nil _ _ _ _ _ | exact Kd.S_nil _ _ _ _ _⟩, ⟨by repeat (first | (with_reducible first | exact HB.out | apply vA | apply vN | apply vD) | exact HB.out)⟩⟩
  case round =>
    clear H'
    try clear c1
    obtain ⟨x3_1, x4_1, rfl, HA, HK1, HO_3, HB⟩ := hrel
    cases gk with
    | zero => exact absurd HA.out (by simp [cooperageref1_Bytes.l0])
    | succ k1 =>
      have H := HA.out
      clear HA
      simp only [cooperageref1_Bytes.l0] at H
      by_cases c2 : x4_1 < (l0.length : Int)
      · rw [if_pos c2] at H
        have c2b0 : decide (x4_1 < (l0.length : Int)) = true := decide_eq_true c2
        clear c2
        by_cases c3 : 0 ≤ x4_1
        · rw [if_pos c3] at H
          have c3b0 : decide (0 ≤ x4_1) = true := decide_eq_true c3
          clear c3
          replace H := Option.bind_eq_some_iff.mp H
          obtain ⟨t420, A40, H⟩ := H
          replace H : (if t420 = true then ((cooperageref1_PutRecord.f k1 ([] : List Int) ((rd_T34 l0 x4_1).f0) ((rd_T34 l0 x4_1).f1) ((rd_T34 l0 x4_1).f2) ((rd_T34 l0 x4_1).f3) ((rd_T34 l0 x4_1).f4)).bind fun t422 => ((cooperageref1_PutFrame.f k1 ([] : List Int) t422).bind fun t425 => (if x3_1.length + t425.length < 140737488355328 then (cooperageref1_Bytes.l0 k1 l0 (x3_1 ++ t425) (wrap64 (x4_1 + 1))) else (none)))) else (cooperageref1_Bytes.l0 k1 l0 x3_1 (wrap64 (x4_1 + 1)))) = some r := H
          have A4 := Aside0.mk A40
          clear A40
          by_cases c5 : t420 = true
          · subst c5
            have H1 : ((cooperageref1_PutRecord.f k1 ([] : List Int) ((rd_T34 l0 x4_1).f0) ((rd_T34 l0 x4_1).f1) ((rd_T34 l0 x4_1).f2) ((rd_T34 l0 x4_1).f3) ((rd_T34 l0 x4_1).f4)).bind fun t422 => ((cooperageref1_PutFrame.f k1 ([] : List Int) t422).bind fun t425 => (if x3_1.length + t425.length < 140737488355328 then (cooperageref1_Bytes.l0 k1 l0 (x3_1 ++ t425) (wrap64 (x4_1 + 1))) else (none)))) = some r := by rw [if_pos rfl] at H; exact H
            clear H
            have H := H1
            clear H1
            replace H := Option.bind_eq_some_iff.mp H
            obtain ⟨t422, A60, H⟩ := H
            replace H : ((cooperageref1_PutFrame.f k1 ([] : List Int) t422).bind fun t425 => (if x3_1.length + t425.length < 140737488355328 then (cooperageref1_Bytes.l0 k1 l0 (x3_1 ++ t425) (wrap64 (x4_1 + 1))) else (none))) = some r := H
            have A6 := Aside0.mk A60
            clear A60
            replace H := Option.bind_eq_some_iff.mp H
            obtain ⟨t425, A70, H⟩ := H
            replace H : (if x3_1.length + t425.length < 140737488355328 then (cooperageref1_Bytes.l0 k1 l0 (x3_1 ++ t425) (wrap64 (x4_1 + 1))) else (none)) = some r := H
            have A7 := Aside0.mk A70
            clear A70
            by_cases c8 : x3_1.length + t425.length < 140737488355328
            · rw [if_pos c8] at H
              have LMc8 := Aside0.mk c8
              clear c8
              obtain ⟨y428, hy428⟩ : ∃ y_ : List Int, y_ = (x3_1 ++ t425) := ⟨_, rfl⟩
              replace H : (cooperageref1_Bytes.l0 k1 l0 y428 (wrap64 (x4_1 + 1))) = some r := by first | (rw [hy428]; with_reducible exact H) | (have H2_ := (Option.bind_some _ _).symm.trans H; rw [hy428]; with_reducible exact H2_) | (have H2_ := (Option.bind_some _ _).symm.trans H; with_reducible exact H2_) | with_reducible exact H | (rw [hy428]; exact H) | exact H
              have Ny428 := Aside0.mk hy428
              clear hy428
              have H' := Aside0.mk H
              clear H
              have p419 : 0 ≤ (x4_1 : Int) := of_decide_eq_true (by first | (with_reducible assumption) | assumption)
              have q419 : x4_1 < (l0.length : Int) := of_decide_eq_true (by first | (with_reducible assumption) | assumption)
              obtain ⟨ad419, e419, hx419_0, hx419_1, hx419_2, hx419_3, hx419_4⟩ := at_T34 HR0.out x4_1 p419 q419
              cases e419
              replace hx419_0 := (HB.out.cell (World.block_lt_of_cell? w _ hx419_0)).trans hx419_0
              replace hx419_1 := (HB.out.cell (World.block_lt_of_cell? w _ hx419_1)).trans hx419_1
              replace hx419_2 := (HB.out.cell (World.block_lt_of_cell? w _ hx419_2)).trans hx419_2
              replace hx419_3 := (HB.out.cell (World.block_lt_of_cell? w _ hx419_3)).trans hx419_3
              replace hx419_4 := (HB.out.cell (World.block_lt_of_cell? w _ hx419_4)).trans hx419_4
              replace p419 := eq_true p419
              replace q419 := eq_true q419
              go_wp2_with (first | ((with_reducible refine gate_callee (f := 16) rfl ?_); refine goesL_ (some 15) rfl rfl Try.func16 (by kernel_rfl) rfl #[.agg #[.int .i64 ((rd_T34 l0 x4_1).f0), .int .i64 ((rd_T34 l0 x4_1).f1), .string ((rd_T34 l0 x4_1).f2), .string ((rd_T34 l0 x4_1).f3), .bool ((rd_T34 l0 x4_1).f4)]] rfl (by (try simp only [List.map_toArray, List.map_cons, List.map_nil]); first | done | rfl | (simp only [List.length_drop, List.length_take]; rfl)) ?_; (with_reducible refine (cooperageref1_Right.calls ((rd_T34 l0 x4_1).f0) ((rd_T34 l0 x4_1).f1) ((rd_T34 l0 x4_1).f2) ((rd_T34 l0 x4_1).f3) ((rd_T34 l0 x4_1).f4) true _ A4.out).mono ?_); rintro e w9 ⟨rfl, hb⟩; refine ⟨_, rfl, ?_⟩; have n0_ := Aside0.mk (Kd.RB (by (with_reducible repeat (first | apply Kd.RA | apply Kd.RN | apply Kd.RD)); exact HO_3.out) hb); have n1_ := Aside0.mk (vT (by repeat (first | (with_reducible first | exact HB.out | apply vA | apply vN | apply vD) | exact HB.out)) hb); clear HO_3; clear HB; have HO_3 := n0_; have HB := n1_; clear n0_ n1_; (try clear hb); (try clear hb2); (try clear hk); (try clear hi); have p421 : 0 ≤ (x4_1 : Int) := of_decide_eq_true (by first | (with_reducible assumption) | assumption); have q421 : x4_1 < (l0.length : Int) := of_decide_eq_true (by first | (with_reducible assumption) | assumption); obtain ⟨ad421, e421, hx421_0, hx421_1, hx421_2, hx421_3, hx421_4⟩ := at_T34 HR0.out x4_1 p421 q421; obtain rfl : ad419 = ad421 := (by injection e421); replace hx421_0 := (HB.out.cell (World.block_lt_of_cell? w _ hx421_0)).trans hx421_0; replace hx421_1 := (HB.out.cell (World.block_lt_of_cell? w _ hx421_1)).trans hx421_1; replace hx421_2 := (HB.out.cell (World.block_lt_of_cell? w _ hx421_2)).trans hx421_2; replace hx421_3 := (HB.out.cell (World.block_lt_of_cell? w _ hx421_3)).trans hx421_3; replace hx421_4 := (HB.out.cell (World.block_lt_of_cell? w _ hx421_4)).trans hx421_4; replace p421 := eq_true p421; replace q421 := eq_true q421) | ((with_reducible refine gate_callee (f := 38) rfl ?_); refine goesL_ (some 21) rfl rfl Try.func38 (by kernel_rfl) rfl #[.slice none 0 0, .agg #[.int .i64 ((rd_T34 l0 x4_1).f0), .int .i64 ((rd_T34 l0 x4_1).f1), .string ((rd_T34 l0 x4_1).f2), .string ((rd_T34 l0 x4_1).f3), .bool ((rd_T34 l0 x4_1).f4)]] rfl (by (try simp only [List.map_toArray, List.map_cons, List.map_nil]); first | done | rfl | (simp only [List.length_drop, List.length_take]; rfl)) ?_; (refine (cooperageref1_PutRecord.calls k1 _ _ ([] : List Int) ((rd_T34 l0 x4_1).f0) ((rd_T34 l0 x4_1).f1) ((rd_T34 l0 x4_1).f2) ((rd_T34 l0 x4_1).f3) ((rd_T34 l0 x4_1).f4) t422 _ ?side1 ?side2 A6.out).mono ?_); (case side1 => exact Kd.C_nil _ _); (case side2 => exact Nat.le_refl _); rintro e w10 ⟨v423, rfl, ho0, hb⟩; refine ⟨_, rfl, ?_⟩; have n0_ := Aside0.mk (Kd.R_elder' (by (with_reducible repeat (first | apply Kd.RA | apply Kd.RN | apply Kd.RD)); exact HO_3.out) (Kd.R_base ho0) hb); have n1_ := Aside0.mk (Kd.RL (Kd.R_new' ho0 (Kd.R_lt (by (with_reducible repeat (first | apply Kd.RA | apply Kd.RN | apply Kd.RD)); exact HO_3.out))) (vZ (by repeat (first | (with_reducible first | exact HB.out | apply vA | apply vN | apply vD) | exact HB.out)))); have n2_ := Aside0.mk (vT (by repeat (first | (with_reducible first | exact HB.out | apply vA | apply vN | apply vD) | exact HB.out)) hb); clear HO_3; clear HB; have HO_3 := n0_; have HO424 := n1_; have HB := n2_; clear n0_ n1_ n2_; (try clear hb); (try clear hb2); (try clear hk); (try clear hi); (try clear ho0); obtain ⟨Ao11, co11, eo11⟩ := Kd.R_slice HO424.out; subst eo11) | ((with_reducible refine gate_callee (f := 37) rfl ?_); refine goesL_ (some 22) rfl rfl Try.func37 (by kernel_rfl) rfl #[.slice none 0 0, .slice Ao11 t422.length co11] rfl (by (try simp only [List.map_toArray, List.map_cons, List.map_nil]); first | done | rfl | (simp only [List.length_drop, List.length_take]; rfl)) ?_; (refine (cooperageref1_PutFrame.calls k1 _ _ ([] : List Int) _ _ t422 t425 _ ?side1 ?side2 ?side3 ?side4 A7.out).mono ?_); (case side1 => exact Kd.C_nil _ _); (case side2 => exact Nat.le_refl _); (case side3 => repeat (first | exact (Kd.R_reads' HO424.out).2.2 | (with_reducible refine Kd.C_alloc ?_ _) | (with_reducible refine Kd.C_drewN ?_ _) | (with_reducible refine Kd.C_drew ?_))); (case side4 => exact (Kd.R_reads' HO424.out).2.1); rintro e w12 ⟨v426, rfl, ho0, hb⟩; refine ⟨_, rfl, ?_⟩; have n0_ := Aside0.mk (Kd.R_elder' (by (with_reducible repeat (first | apply Kd.RA | apply Kd.RN | apply Kd.RD)); exact HO_3.out) (Kd.R_base ho0) hb); have n1_ := Aside0.mk (Kd.R_elder' (by (with_reducible repeat (first | apply Kd.RA | apply Kd.RN | apply Kd.RD)); exact HO424.out) (Kd.R_base ho0) hb); have n2_ := Aside0.mk (Kd.RL (Kd.R_new' (Kd.R_new' ho0 (Kd.R_lt (by (with_reducible repeat (first | apply Kd.RA | apply Kd.RN | apply Kd.RD)); exact HO_3.out))) (Kd.R_lt (by (with_reducible repeat (first | apply Kd.RA | apply Kd.RN | apply Kd.RD)); exact HO424.out))) (vZ (by repeat (first | (with_reducible first | exact HB.out | apply vA | apply vN | apply vD) | exact HB.out)))); have n3_ := Aside0.mk (vT (by repeat (first | (with_reducible first | exact HB.out | apply vA | apply vN | apply vD) | exact HB.out)) hb); clear HO_3; clear HO424; clear HB; have HO_3 := n0_; have HO424 := n1_; have HO427 := n2_; have HB := n3_; clear n0_ n1_ n2_ n3_; (try clear hb); (try clear hb2); (try clear hk); (try clear hi); (try clear ho0); obtain ⟨Ao14, co14, eo14⟩ := Kd.R_slice HO427.out; subst eo14) | ((with_reducible refine gate_builtin (b := .append) (xs := #[(.tmp 16), .tmp 22]) rfl ?_); at_builtin; refine Kd.R_append_rows (Kd.int .u8) (w0 := w) w.heap.size rfl (.tmp 16) (.tmp 22) 37 5 (.int .u8 0) 1 rfl Try.underlying37 info5 rfl (by decide) (by omega) u3 x3_1 t425 _ _ _ (fun k_ => some k_ ≠ (.slice Ao11 t422.length co11 : Value).ownBlock ∧ some k_ ≠ (.slice Ao14 t425.length co14 : Value).ownBlock) (fun _ => False) rfl rfl ?aO ?aR (fun _ _ h => h) (fun _ h => h.elim) ?aF ?aB ?aS ?aL ?_; (case aR => repeat (first | exact (Kd.R_reads' HO427.out).2.2 | (with_reducible refine Kd.C_alloc ?_ _) | (with_reducible refine Kd.C_drewN ?_ _) | (with_reducible refine Kd.C_drew ?_))); (case aB => exact (by repeat (first | (with_reducible first | exact HB.out | apply vA | apply vN | apply vD) | exact HB.out))); (case aF => exact (fun k_ hk => ⟨Kd.fresh' (Kd.R_lt (by (with_reducible repeat (first | apply Kd.RA | apply Kd.RN | apply Kd.RD)); exact HO424.out)) k_ hk, Kd.fresh' (Kd.R_lt (by (with_reducible repeat (first | apply Kd.RA | apply Kd.RN | apply Kd.RD)); exact HO427.out)) k_ hk⟩)); (case aO => exact (by (with_reducible repeat (first | apply Kd.RA | apply Kd.RN | apply Kd.RD)); exact Kd.RM HO_3.out (fun _ hk => ⟨hk.1.2, hk.2⟩))); (case aS => exact (vZ (by repeat (first | (with_reducible first | exact HB.out | apply vA | apply vN | apply vD) | exact HB.out)))); (case aL => have := LMc8.out; omega); intro v429 w13 ho hb hg hat; rw [← Ny428.out] at ho; have n0_ := Aside0.mk (Kd.R_after (ok := (fun k_ => some k_ ≠ (.slice Ao14 t425.length co14 : Value).ownBlock)) (by (with_reducible repeat (first | apply Kd.RA | apply Kd.RN | apply Kd.RD)); exact Kd.RM HO424.out (fun _ hk => ⟨hk.2, hk.1.2⟩)) hg hat); have n1_ := Aside0.mk (Kd.R_after (ok := (fun k_ => some k_ ≠ (.slice Ao11 t422.length co11 : Value).ownBlock)) (by (with_reducible repeat (first | apply Kd.RA | apply Kd.RN | apply Kd.RD)); exact Kd.RM HO427.out (fun _ hk => ⟨hk.2, hk.1.2⟩)) hg hat); have n2_ := Aside0.mk (hb); have n3_ := Aside0.mk (ho); clear HO424; clear HO427; clear HB; clear HO_3; have HO424 := n0_; have HO427 := n1_; have HB := n2_; have HO430 := n3_; clear n0_ n1_ n2_ n3_; clear ho hb hg hat))
              go_roundg k1
              case measure => have := HK1.out; omega
              case rel => exact ⟨(y428), (wrap64 (x4_1 + 1)), (by first | rfl | (simp; done) | (simp [*]; done)), H', ⟨by have := HK1.out; omega⟩, ⟨by (with_reducible repeat (first | apply Kd.RA | apply Kd.RN | apply Kd.RD)); exact Kd.RM HO430.out (fun _ hk => trivial)⟩, ⟨by repeat (first | (with_reducible first | exact HB.out | apply vA | apply vN | apply vD) | exact HB.out)⟩⟩
            · rw [if_neg c8] at H
              exact absurd H (by simp)
          · replace c5 := Bool.eq_false_iff.mpr c5
            subst c5
            have H1 : (cooperageref1_Bytes.l0 k1 l0 x3_1 (wrap64 (x4_1 + 1))) = some r := by rw [if_neg (show ¬ (false = true) by decide)] at H; exact H
            clear H
            have H := H1
            clear H1
            have H' := Aside0.mk H
            clear H
            have p419 : 0 ≤ (x4_1 : Int) := of_decide_eq_true (by first | (with_reducible assumption) | assumption)
            have q419 : x4_1 < (l0.length : Int) := of_decide_eq_true (by first | (with_reducible assumption) | assumption)
            obtain ⟨ad419, e419, hx419_0, hx419_1, hx419_2, hx419_3, hx419_4⟩ := at_T34 HR0.out x4_1 p419 q419
            cases e419
            replace hx419_0 := (HB.out.cell (World.block_lt_of_cell? w _ hx419_0)).trans hx419_0
            replace hx419_1 := (HB.out.cell (World.block_lt_of_cell? w _ hx419_1)).trans hx419_1
            replace hx419_2 := (HB.out.cell (World.block_lt_of_cell? w _ hx419_2)).trans hx419_2
            replace hx419_3 := (HB.out.cell (World.block_lt_of_cell? w _ hx419_3)).trans hx419_3
            replace hx419_4 := (HB.out.cell (World.block_lt_of_cell? w _ hx419_4)).trans hx419_4
            replace p419 := eq_true p419
            replace q419 := eq_true q419
            go_wp2_with (first | ((with_reducible refine gate_callee (f := 16) rfl ?_); refine goesL_ (some 15) rfl rfl Try.func16 (by kernel_rfl) rfl #[.agg #[.int .i64 ((rd_T34 l0 x4_1).f0), .int .i64 ((rd_T34 l0 x4_1).f1), .string ((rd_T34 l0 x4_1).f2), .string ((rd_T34 l0 x4_1).f3), .bool ((rd_T34 l0 x4_1).f4)]] rfl (by (try simp only [List.map_toArray, List.map_cons, List.map_nil]); first | done | rfl | (simp only [List.length_drop, List.length_take]; rfl)) ?_; (with_reducible refine (cooperageref1_Right.calls ((rd_T34 l0 x4_1).f0) ((rd_T34 l0 x4_1).f1) ((rd_T34 l0 x4_1).f2) ((rd_T34 l0 x4_1).f3) ((rd_T34 l0 x4_1).f4) false _ A4.out).mono ?_); rintro e w15 ⟨rfl, hb⟩; refine ⟨_, rfl, ?_⟩; have n0_ := Aside0.mk (Kd.RB (by (with_reducible repeat (first | apply Kd.RA | apply Kd.RN | apply Kd.RD)); exact HO_3.out) hb); have n1_ := Aside0.mk (vT (by repeat (first | (with_reducible first | exact HB.out | apply vA | apply vN | apply vD) | exact HB.out)) hb); clear HO_3; clear HB; have HO_3 := n0_; have HB := n1_; clear n0_ n1_; (try clear hb); (try clear hb2); (try clear hk); (try clear hi)))
            go_roundg k1
            case measure => have := HK1.out; omega
            case rel => exact ⟨(x3_1), (wrap64 (x4_1 + 1)), (by first | rfl | (simp; done) | (simp [*]; done)), H', ⟨by have := HK1.out; omega⟩, ⟨by (with_reducible repeat (first | apply Kd.RA | apply Kd.RN | apply Kd.RD)); exact HO_3.out⟩, ⟨by repeat (first | (with_reducible first | exact HB.out | apply vA | apply vN | apply vD) | exact HB.out)⟩⟩
        · rw [if_neg c3] at H
          exact absurd H (by simp)
      · rw [if_neg c2] at H
        have c2b0 : decide (x4_1 < (l0.length : Int)) = false := decide_eq_false c2
        clear c2
        obtain rfl := Option.some.inj H
        go_wp2
        go_ret
        exact ⟨_, by first | rfl | (simp [*, eN, eS] <;> rfl) | (simp [eN, eS]; generalize ByteArray.toList _ = l_; cases l_ <;> rfl), by (with_reducible repeat (first | apply Kd.RA | apply Kd.RN | apply Kd.RD)); exact HO_3.out, by repeat (first | (with_reducible first | exact HB.out | apply vA | apply vN | apply vD) | exact HB.out)⟩

end Go.Proofs.Ytphnolgneojdhaa.V

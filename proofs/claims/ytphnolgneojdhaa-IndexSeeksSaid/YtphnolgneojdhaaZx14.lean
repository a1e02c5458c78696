-- printed by a program of this session (a changed copy of the kit's printer; squeeze.py)
import Derived.Test.YtphnolgneojdhaaZx0
import Derived.Test.YtphnolgneojdhaaZx6
import Derived.Test.YtphnolgneojdhaaZx11
import Derived.Test.YtphnolgneojdhaaZx12
import Derived.Test.YtphnolgneojdhaaZx13
namespace Go.Proofs.Ytphnolgneojdhaa.Z
open Go.RowKit Go.Proofs.YtphnolgneojdhaaW.PrintWords Go.Proofs.YtphnolgneojdhaaW.PrintLast Go.Proofs.YtphnolgneojdhaaW.PrintMore
attribute [local go_sem] max2_int min2_int max_two min_two max_three min_three max_four min_four   -- for this text's walks alone
set_option linter.unusedVariables false
set_option linter.unusedSimpArgs false
/-! ### cooperageref1_GetRecord: function 42 -/
def cooperageref1_GetRecord.j0 : Nat → List Int → Int → Int → Bool → Int → Int → ByteArray → ByteArray → Bool → Option (Int × Int × ByteArray × ByteArray × Bool × Int × Int)
  | 0, _, _, _, _, _, _, _, _, _ => none
  | k + 1, x0, x7, x10, x49, x485000, x485001, x485002, x485003, x485004 => if x49 = true then (some (0, 0, (⟨#[]⟩ : ByteArray), (⟨#[]⟩ : ByteArray), false, 0, 2)) else (if (wrap64 (x7 + x10)) ≥ (x0.length : Int) then (some (0, 0, (⟨#[]⟩ : ByteArray), (⟨#[]⟩ : ByteArray), false, 0, 4)) else (if 0 ≤ (wrap64 (x7 + x10)) then (if (wrap64 (x7 + x10)) < (x0.length : Int) then (if (rd x0 (wrap64 (x7 + x10))) > 1 then (some (0, 0, (⟨#[]⟩ : ByteArray), (⟨#[]⟩ : ByteArray), false, 0, 2)) else ((cooperageref1_part.f k x0 (wrap64 ((wrap64 (x7 + x10)) + 1)) 200).bind fun bt495 => (if bt495.2.2 = 0 then ((cooperageref1_part.f k x0 bt495.2.1 2000).bind fun bt498 => (if bt498.2.2 = 0 then ((cooperageref1_Right.f x485000 x485001 bt495.1 bt498.1 ((rd x0 (wrap64 (x7 + x10))) == 1)).bind fun t501 => (if t501 = true then (some (x485000, x485001, bt495.1, bt498.1, ((rd x0 (wrap64 (x7 + x10))) == 1), bt498.2.1, 0)) else (some (0, 0, (⟨#[]⟩ : ByteArray), (⟨#[]⟩ : ByteArray), false, 0, 2)))) else (some (0, 0, (⟨#[]⟩ : ByteArray), (⟨#[]⟩ : ByteArray), false, 0, bt498.2.2)))) else (some (0, 0, (⟨#[]⟩ : ByteArray), (⟨#[]⟩ : ByteArray), false, 0, bt495.2.2))))) else (none)) else (none)))
def cooperageref1_GetRecord.f (k : Nat) (l0 : List Int) : Option (Int × Int × ByteArray × ByteArray × Bool × Int × Int) := (cooperageref1_Get.f k l0).bind fun bt485 => (if bt485.2.2 = 0 then (if bt485.1 > 1125899906842624 then (some (0, 0, (⟨#[]⟩ : ByteArray), (⟨#[]⟩ : ByteArray), false, 0, 2)) else (if 0 ≤ bt485.2.1 then (if bt485.2.1 ≤ (l0.length : Int) then ((cooperageref1_Get.f k (l0.drop (bt485.2.1 : Int).toNat)).bind fun bt489 => (if bt489.2.2 = 0 then ((cooperageref1_Unfold.f bt489.1).bind fun t492 => (if t492 < (-1099511627776) then (cooperageref1_GetRecord.j0 k l0 bt485.2.1 bt489.2.1 true (wrap64 (bt485.1)) t492 (⟨#[]⟩ : ByteArray) (⟨#[]⟩ : ByteArray) false) else (cooperageref1_GetRecord.j0 k l0 bt485.2.1 bt489.2.1 (decide (t492 > 1099511627776)) (wrap64 (bt485.1)) t492 (⟨#[]⟩ : ByteArray) (⟨#[]⟩ : ByteArray) false))) else (some (0, 0, (⟨#[]⟩ : ByteArray), (⟨#[]⟩ : ByteArray), false, 0, bt489.2.2)))) else (none)) else (none))) else (some (0, 0, (⟨#[]⟩ : ByteArray), (⟨#[]⟩ : ByteArray), false, 0, bt485.2.2)))
theorem cooperageref1_GetRecord.mono_l : ∀ k, (∀ y0 y1 y2 y3 y4 y5 y6 y7 y8, LeO (cooperageref1_GetRecord.j0 k y0 y1 y2 y3 y4 y5 y6 y7 y8) (cooperageref1_GetRecord.j0 (k + 1) y0 y1 y2 y3 y4 y5 y6 y7 y8))
  | 0 => fun _ _ _ _ _ _ _ _ _ r h => by simp [cooperageref1_GetRecord.j0] at h
  | k + 1 => by
    have ih0 := cooperageref1_GetRecord.mono_l k
    · intro y0 y1 y2 y3 y4 y5 y6 y7 y8
      unfold cooperageref1_GetRecord.j0
      repeat' first
      | (with_reducible exact LeO.refl _)
      | (with_reducible exact LeO.none _)
      | (with_reducible refine LeO.ite ?_ ?_)
      | (with_reducible refine LeO.bind ?_ (fun _ => ?_))
      | exact ih0 _ _ _ _ _ _ _ _ _
      | exact cooperageref1_Get.mono _ _
      | exact cooperageref1_part.mono _ _ _ _
      | exact LeO.none _
      | refine LeO.ite ?_ ?_
      | refine LeO.bind ?_ (fun _ => ?_)
theorem cooperageref1_GetRecord.mono : ∀ a0 k, LeO (cooperageref1_GetRecord.f k a0) (cooperageref1_GetRecord.f (k + 1) a0) := by
  intro a0 k
  have ih0 := cooperageref1_GetRecord.mono_l k
  unfold cooperageref1_GetRecord.f
  repeat' first
      | (with_reducible exact LeO.refl _)
      | (with_reducible exact LeO.none _)
      | (with_reducible refine LeO.ite ?_ ?_)
      | (with_reducible refine LeO.bind ?_ (fun _ => ?_))
      | exact ih0 _ _ _ _ _ _ _ _ _
      | exact cooperageref1_Get.mono _ _
      | exact cooperageref1_part.mono _ _ _ _
      | exact LeO.none _
      | refine LeO.ite ?_ ?_
      | refine LeO.bind ?_ (fun _ => ?_)
set_option maxHeartbeats 8000000 in
set_option maxRecDepth 100000 in
theorem cooperageref1_GetRecord.calls (k : Nat) (A0 : Option Addr) (c0 : Nat) (l0 : List Int) (r1 : Int) (r2 : Int) (r3 : ByteArray) (r4 : ByteArray) (r5 : Bool) (r6 : Int) (r7 : Int) (w : World) (hr0 : Kd.C (Kd.int .u8) w A0 l0.length l0) (hc0 : l0.length ≤ c0) (h : cooperageref1_GetRecord.f k l0 = some (r1, r2, r3, r4, r5, r6, r7)) :
    Calls Try.prog 42 #[.slice A0 l0.length c0] w fun e w' => e = .returned (.tuple #[.agg #[.int .i64 r1, .int .i64 r2, .string r3, .string r4, .bool r5], .int .i64 r6, .int .i64 r7]) ∧ Below w.heap.size w w' := by
  have hu34 := Try.underlying34
  have HR0 := Aside0.mk hr0
  have HC0 := Aside0.mk hc0
  clear hr0 hc0
  have HB := Aside0.mk (Below.refl w.heap.size w)
  have H : ((cooperageref1_Get.f k l0).bind fun bt485 => (if bt485.2.2 = 0 then (if bt485.1 > 1125899906842624 then (some (0, 0, (⟨#[]⟩ : ByteArray), (⟨#[]⟩ : ByteArray), false, 0, 2)) else (if 0 ≤ bt485.2.1 then (if bt485.2.1 ≤ (l0.length : Int) then ((cooperageref1_Get.f k (l0.drop (bt485.2.1 : Int).toNat)).bind fun bt489 => (if bt489.2.2 = 0 then ((cooperageref1_Unfold.f bt489.1).bind fun t492 => (if t492 < (-1099511627776) then (cooperageref1_GetRecord.j0 k l0 bt485.2.1 bt489.2.1 true (wrap64 (bt485.1)) t492 (⟨#[]⟩ : ByteArray) (⟨#[]⟩ : ByteArray) false) else (cooperageref1_GetRecord.j0 k l0 bt485.2.1 bt489.2.1 (decide (t492 > 1099511627776)) (wrap64 (bt485.1)) t492 (⟨#[]⟩ : ByteArray) (⟨#[]⟩ : ByteArray) false))) else (some (0, 0, (⟨#[]⟩ : ByteArray), (⟨#[]⟩ : ByteArray), false, 0, bt489.2.2)))) else (none)) else (none))) else (some (0, 0, (⟨#[]⟩ : ByteArray), (⟨#[]⟩ : ByteArray), false, 0, bt485.2.2)))) = some (r1, r2, r3, r4, r5, r6, r7) := h
  clear h
  replace H := Option.bind_eq_some_iff.mp H
  obtain ⟨⟨t485, t486, t487⟩, A20, H⟩ := H
  replace H : (if t487 = 0 then (if t485 > 1125899906842624 then (some (0, 0, (⟨#[]⟩ : ByteArray), (⟨#[]⟩ : ByteArray), false, 0, 2)) else (if 0 ≤ t486 then (if t486 ≤ (l0.length : Int) then ((cooperageref1_Get.f k (l0.drop (t486 : Int).toNat)).bind fun bt489 => (if bt489.2.2 = 0 then ((cooperageref1_Unfold.f bt489.1).bind fun t492 => (if t492 < (-1099511627776) then (cooperageref1_GetRecord.j0 k l0 t486 bt489.2.1 true (wrap64 (t485)) t492 (⟨#[]⟩ : ByteArray) (⟨#[]⟩ : ByteArray) false) else (cooperageref1_GetRecord.j0 k l0 t486 bt489.2.1 (decide (t492 > 1099511627776)) (wrap64 (t485)) t492 (⟨#[]⟩ : ByteArray) (⟨#[]⟩ : ByteArray) false))) else (some (0, 0, (⟨#[]⟩ : ByteArray), (⟨#[]⟩ : ByteArray), false, 0, bt489.2.2)))) else (none)) else (none))) else (some (0, 0, (⟨#[]⟩ : ByteArray), (⟨#[]⟩ : ByteArray), false, 0, t487))) = some (r1, r2, r3, r4, r5, r6, r7) := H
  have A2 := Aside0.mk A20
  clear A20
  by_cases c3 : t487 = 0
  · rw [if_pos c3] at H
    have c3b0 : (t487 == 0) = true := beq_iff_eq.mpr c3
    have c3b1 : (t487 != 0) = false := bne_eq_false_iff_eq.mpr c3
    clear c3
    by_cases c4 : t485 > 1125899906842624
    · rw [if_pos c4] at H
      have c4b0 : decide (1125899906842624 < t485) = true := decide_eq_true c4
      clear c4
      simp only [Option.some.injEq, Prod.mk.injEq] at H
      obtain ⟨rfl, rfl, rfl, rfl, rfl, rfl, rfl⟩ := H
      go_enter Try.func42, Try.ntmps42
      go_wp2_with (first | ((with_reducible refine gate_dst (N := 2) rfl ?_); refine box_event ?hg (N := 2) ?hd (cs := #[.int .i64 0, .int .i64 0, .string (⟨#[]⟩ : ByteArray), .string (⟨#[]⟩ : ByteArray), .bool false]) (t := 34) ?hr ?_; (case hd => rfl); (case hg => rfl); (case hr => first | (go_simp; done) | (go_simp; rfl)); intro gb483 hg w5 hbox hb; have n0_ := Aside0.mk (vT (by repeat (first | (with_reducible first | exact HB.out | apply vA | apply vN | apply vD) | exact HB.out)) hb); have n1_ := Aside0.mk (hbox); have n2_ := Aside0.mk ((by rw [hg]; exact (vZ (by repeat (first | (with_reducible first | exact HB.out | apply vA | apply vN | apply vD) | exact HB.out))) : w.heap.size ≤ gb483)); have n3_ := Aside0.mk ((by rw [hg]; exact (vZ (by repeat (first | (with_reducible first | exact HB.out | apply vA | apply vN | apply vD) | exact HB.out))) : w.heap.size ≤ gb483)); clear HB; have HB := n0_; have BK483 := n1_; have GW483 := n2_; have GE483 := n3_; clear n0_ n1_ n2_ n3_; clear hb hbox hg) | ((with_reducible refine gate_dst (N := 5) rfl ?_); refine box_event ?hg (N := 5) ?hd (cs := #[.int .i64 0, .int .i64 0, .string (⟨#[]⟩ : ByteArray), .string (⟨#[]⟩ : ByteArray), .bool false]) (t := 34) ?hr ?_; (case hd => rfl); (case hg => rfl); (case hr => first | (go_simp; done) | (go_simp; rfl)); intro gb484 hg w6 hbox hb; have n0_ := Aside0.mk (bB (g := gb483) (o := .cells #[.int .i64 0, .int .i64 0, .string (⟨#[]⟩ : ByteArray), .string (⟨#[]⟩ : ByteArray), .bool false] 34 (0, 0)) (by (with_reducible repeat (first | refine bN ?_ _ | refine bD ?_ | refine bA ?_ _)); exact BK483.out) hb); have n1_ := Aside0.mk (vT (by repeat (first | (with_reducible first | exact HB.out | apply vA | apply vN | apply vD | refine vS ?_ GE483.out) | exact HB.out)) hb); have n2_ := Aside0.mk (hbox); have n3_ := Aside0.mk ((by rw [hg]; exact (vZ (by repeat (first | (with_reducible first | exact HB.out | apply vA | apply vN | apply vD | refine vS ?_ GE483.out) | exact HB.out))) : w.heap.size ≤ gb484)); have n4_ := Aside0.mk ((by rw [hg]; exact (vZ (by repeat (first | (with_reducible first | exact HB.out | apply vA | apply vN | apply vD | refine vS ?_ GE483.out) | exact HB.out))) : w.heap.size ≤ gb484)); have n5_ := Aside0.mk ((by rw [hg]; exact Nat.ne_of_lt (blk_lt (g := gb483) (o := .cells #[.int .i64 0, .int .i64 0, .string (⟨#[]⟩ : ByteArray), .string (⟨#[]⟩ : ByteArray), .bool false] 34 (0, 0)) (by (with_reducible repeat (first | refine bN ?_ _ | refine bD ?_ | refine bA ?_ _)); exact BK483.out)) : gb483 ≠ gb484)); have n6_ := Aside0.mk ((by rw [hg]; exact Nat.ne_of_gt (blk_lt (g := gb483) (o := .cells #[.int .i64 0, .int .i64 0, .string (⟨#[]⟩ : ByteArray), .string (⟨#[]⟩ : ByteArray), .bool false] 34 (0, 0)) (by (with_reducible repeat (first | refine bN ?_ _ | refine bD ?_ | refine bA ?_ _)); exact BK483.out)) : gb484 ≠ gb483)); clear BK483; clear HB; have BK483 := n0_; have HB := n1_; have BK484 := n2_; have GW484 := n3_; have GE484 := n4_; have NB483_484 := n5_; have NB484_483 := n6_; clear n0_ n1_ n2_ n3_ n4_ n5_ n6_; clear hb hbox hg) | ((with_reducible refine gate_callee (f := 64) rfl ?_); refine goesL_ (some 13) rfl rfl Try.func64 (by kernel_rfl) rfl #[.slice A0 l0.length c0] rfl (by (try simp only [List.map_toArray, List.map_cons, List.map_nil]); first | done | rfl | (simp only [List.length_drop, List.length_take]; rfl)) ?_; (with_reducible refine (cooperageref1_Get.calls k _ _ l0 t485 t486 t487 _ ?side1 ?side2 A2.out).mono ?_); (case side1 => repeat (first | exact (Kd.C_below HR0.out HB.out) | (with_reducible refine Kd.C_alloc ?_ _) | (with_reducible refine Kd.C_drewN ?_ _) | (with_reducible refine Kd.C_drew ?_))); (case side2 => exact HC0.out); rintro e w' ⟨rfl, ⟨nd, rfl⟩⟩; refine ⟨_, rfl, ?_⟩; (try (rw [drewN_self w6]; generalize hq_ : World.drewN w6 _ = w6; have n0_ : Aside0 (w6.heap[gb483]? = some (.cells #[.int .i64 0, .int .i64 0, .string (⟨#[]⟩ : ByteArray), .string (⟨#[]⟩ : ByteArray), .bool false] 34 (0, 0))) := ⟨by rw [← hq_]; exact (by (with_reducible repeat (first | refine bN ?_ _ | refine bD ?_ | refine bA ?_ _)); exact BK483.out)⟩; have n1_ : Aside0 (w6.heap[gb484]? = some (.cells #[.int .i64 0, .int .i64 0, .string (⟨#[]⟩ : ByteArray), .string (⟨#[]⟩ : ByteArray), .bool false] 34 (0, 0))) := ⟨by rw [← hq_]; exact (by (with_reducible repeat (first | refine bN ?_ _ | refine bD ?_ | refine bA ?_ _)); exact BK484.out)⟩; have n2_ : Aside0 (Below w.heap.size w w6) := ⟨by rw [← hq_]; exact (by repeat (first | (with_reducible first | exact HB.out | apply vA | apply vN | apply vD | refine vS ?_ GE483.out | refine vS ?_ GE484.out) | exact HB.out))⟩; clear BK483 BK484 HB hq_; have BK483 := n0_; have BK484 := n1_; have HB := n2_; clear n0_ n1_ n2_)); have hnb7 := NB483_484.out; have hnc7 := NB484_483.out; have hcz8_0 : w6.cell? ⟨gb483, 0, none⟩ = some (.int .i64 0) := (bC BK483.out 0).trans rfl; have hcz8_1 : w6.cell? ⟨gb483, 1, none⟩ = some (.int .i64 0) := (bC BK483.out 1).trans rfl; have hcz8_2 : w6.cell? ⟨gb483, 2, none⟩ = some (.string (⟨#[]⟩ : ByteArray)) := (bC BK483.out 2).trans rfl; have hcz8_3 : w6.cell? ⟨gb483, 3, none⟩ = some (.string (⟨#[]⟩ : ByteArray)) := (bC BK483.out 3).trans rfl; have hcz8_4 : w6.cell? ⟨gb483, 4, none⟩ = some (.bool false) := (bC BK483.out 4).trans rfl; have hfz8_0 := bF BK483.out 0; have hfz8_1 := bF BK483.out 1; have hfz8_2 := bF BK483.out 2; have hfz8_3 := bF BK483.out 3; have hfz8_4 := bF BK483.out 4))
      refine bodyPost_ret (results_ctt rfl _ _ gb483 34 #[.int .i64 0, .int .i64 0, .string (⟨#[]⟩ : ByteArray), .string (⟨#[]⟩ : ByteArray), .bool false] (0, 0) _ rfl (by (with_reducible repeat (first | refine bN ?_ _ | refine bD ?_ | refine bA ?_ _)); refine bP (cs := #[.int .i64 0, .int .i64 0, .string (⟨#[]⟩ : ByteArray), .string (⟨#[]⟩ : ByteArray), .bool false]) ?_ 4 _ rfl; (with_reducible repeat (first | refine bN ?_ _ | refine bD ?_ | refine bA ?_ _)); refine bP (cs := #[.int .i64 0, .int .i64 0, .string (⟨#[]⟩ : ByteArray), .string (⟨#[]⟩ : ByteArray), .bool false]) ?_ 3 _ rfl; (with_reducible repeat (first | refine bN ?_ _ | refine bD ?_ | refine bA ?_ _)); refine bP (cs := #[.int .i64 0, .int .i64 0, .string (⟨#[]⟩ : ByteArray), .string (⟨#[]⟩ : ByteArray), .bool false]) ?_ 2 _ rfl; (with_reducible repeat (first | refine bN ?_ _ | refine bD ?_ | refine bA ?_ _)); refine bP (cs := #[.int .i64 0, .int .i64 0, .string (⟨#[]⟩ : ByteArray), .string (⟨#[]⟩ : ByteArray), .bool false]) ?_ 1 _ rfl; (with_reducible repeat (first | refine bN ?_ _ | refine bD ?_ | refine bA ?_ _)); refine bP (cs := #[.int .i64 0, .int .i64 0, .string (⟨#[]⟩ : ByteArray), .string (⟨#[]⟩ : ByteArray), .bool false]) ?_ 0 _ rfl; (with_reducible repeat (first | refine bN ?_ _ | refine bD ?_ | refine bA ?_ _)); exact BK483.out) Try.underlying34 rfl (by kernel_rfl)) rfl ?_
      exact ⟨by first | rfl | (simp [*, eN, eS] <;> rfl) | (simp [eN, eS]; generalize ByteArray.toList _ = l_; cases l_ <;> rfl), by repeat (first | (with_reducible first | exact HB.out | apply vA | apply vN | apply vD | refine vS ?_ GE483.out | refine vS ?_ GE484.out) | exact HB.out)⟩
    · rw [if_neg c4] at H
      have c4b0 : decide (1125899906842624 < t485) = false := decide_eq_false c4
      clear c4
      by_cases c9 : 0 ≤ t486
      · rw [if_pos c9] at H
        have c9b0 := eq_true c9
        have c9b1 : decide (0 ≤ t486) = true := decide_eq_true c9
        clear c9
        by_cases c10 : t486 ≤ (l0.length : Int)
        · rw [if_pos c10] at H
          have c10b0 := eq_true c10
          have c10b1 : decide (t486 ≤ (l0.length : Int)) = true := decide_eq_true c10
          clear c10
          replace H := Option.bind_eq_some_iff.mp H
          obtain ⟨⟨t489, t490, t491⟩, A110, H⟩ := H
          replace H : (if t491 = 0 then ((cooperageref1_Unfold.f t489).bind fun t492 => (if t492 < (-1099511627776) then (cooperageref1_GetRecord.j0 k l0 t486 t490 true (wrap64 (t485)) t492 (⟨#[]⟩ : ByteArray) (⟨#[]⟩ : ByteArray) false) else (cooperageref1_GetRecord.j0 k l0 t486 t490 (decide (t492 > 1099511627776)) (wrap64 (t485)) t492 (⟨#[]⟩ : ByteArray) (⟨#[]⟩ : ByteArray) false))) else (some (0, 0, (⟨#[]⟩ : ByteArray), (⟨#[]⟩ : ByteArray), false, 0, t491))) = some (r1, r2, r3, r4, r5, r6, r7) := H
          have A11 := Aside0.mk A110
          clear A110
          by_cases c12 : t491 = 0
          · rw [if_pos c12] at H
            have c12b0 : (t491 == 0) = true := beq_iff_eq.mpr c12
            have c12b1 : (t491 != 0) = false := bne_eq_false_iff_eq.mpr c12
            clear c12
            replace H := Option.bind_eq_some_iff.mp H
            obtain ⟨t492, A130, H⟩ := H
            replace H : (if t492 < (-1099511627776) then (cooperageref1_GetRecord.j0 k l0 t486 t490 true (wrap64 (t485)) t492 (⟨#[]⟩ : ByteArray) (⟨#[]⟩ : ByteArray) false) else (cooperageref1_GetRecord.j0 k l0 t486 t490 (decide (t492 > 1099511627776)) (wrap64 (t485)) t492 (⟨#[]⟩ : ByteArray) (⟨#[]⟩ : ByteArray) false)) = some (r1, r2, r3, r4, r5, r6, r7) := H
            have A13 := Aside0.mk A130
            clear A130
            have HC14 := Aside0.mk H
            clear H
            go_enter Try.func42, Try.ntmps42
            go_upto_region 12 with (first | ((with_reducible refine gate_dst (N := 2) rfl ?_); refine box_event ?hg (N := 2) ?hd (cs := #[.int .i64 0, .int .i64 0, .string (⟨#[]⟩ : ByteArray), .string (⟨#[]⟩ : ByteArray), .bool false]) (t := 34) ?hr ?_; (case hd => rfl); (case hg => rfl); (case hr => first | (go_simp; done) | (go_simp; rfl)); intro gb483 hg w15 hbox hb; have n0_ := Aside0.mk (vT (by repeat (first | (with_reducible first | exact HB.out | apply vA | apply vN | apply vD) | exact HB.out)) hb); have n1_ := Aside0.mk (hbox); have n2_ := Aside0.mk ((by rw [hg]; exact (vZ (by repeat (first | (with_reducible first | exact HB.out | apply vA | apply vN | apply vD) | exact HB.out))) : w.heap.size ≤ gb483)); have n3_ := Aside0.mk ((by rw [hg]; exact (vZ (by repeat (first | (with_reducible first | exact HB.out | apply vA | apply vN | apply vD) | exact HB.out))) : w.heap.size ≤ gb483)); clear HB; have HB := n0_; have BK483 := n1_; have GW483 := n2_; have GE483 := n3_; clear n0_ n1_ n2_ n3_; clear hb hbox hg) | ((with_reducible refine gate_dst (N := 5) rfl ?_); refine box_event ?hg (N := 5) ?hd (cs := #[.int .i64 0, .int .i64 0, .string (⟨#[]⟩ : ByteArray), .string (⟨#[]⟩ : ByteArray), .bool false]) (t := 34) ?hr ?_; (case hd => rfl); (case hg => rfl); (case hr => first | (go_simp; done) | (go_simp; rfl)); intro gb484 hg w16 hbox hb; have n0_ := Aside0.mk (bB (g := gb483) (o := .cells #[.int .i64 0, .int .i64 0, .string (⟨#[]⟩ : ByteArray), .string (⟨#[]⟩ : ByteArray), .bool false] 34 (0, 0)) (by (with_reducible repeat (first | refine bN ?_ _ | refine bD ?_ | refine bA ?_ _)); exact BK483.out) hb); have n1_ := Aside0.mk (vT (by repeat (first | (with_reducible first | exact HB.out | apply vA | apply vN | apply vD | refine vS ?_ GE483.out) | exact HB.out)) hb); have n2_ := Aside0.mk (hbox); have n3_ := Aside0.mk ((by rw [hg]; exact (vZ (by repeat (first | (with_reducible first | exact HB.out | apply vA | apply vN | apply vD | refine vS ?_ GE483.out) | exact HB.out))) : w.heap.size ≤ gb484)); have n4_ := Aside0.mk ((by rw [hg]; exact (vZ (by repeat (first | (with_reducible first | exact HB.out | apply vA | apply vN | apply vD | refine vS ?_ GE483.out) | exact HB.out))) : w.heap.size ≤ gb484)); have n5_ := Aside0.mk ((by rw [hg]; exact Nat.ne_of_lt (blk_lt (g := gb483) (o := .cells #[.int .i64 0, .int .i64 0, .string (⟨#[]⟩ : ByteArray), .string (⟨#[]⟩ : ByteArray), .bool false] 34 (0, 0)) (by (with_reducible repeat (first | refine bN ?_ _ | refine bD ?_ | refine bA ?_ _)); exact BK483.out)) : gb483 ≠ gb484)); have n6_ := Aside0.mk ((by rw [hg]; exact Nat.ne_of_gt (blk_lt (g := gb483) (o := .cells #[.int .i64 0, .int .i64 0, .string (⟨#[]⟩ : ByteArray), .string (⟨#[]⟩ : ByteArray), .bool false] 34 (0, 0)) (by (with_reducible repeat (first | refine bN ?_ _ | refine bD ?_ | refine bA ?_ _)); exact BK483.out)) : gb484 ≠ gb483)); clear BK483; clear HB; have BK483 := n0_; have HB := n1_; have BK484 := n2_; have GW484 := n3_; have GE484 := n4_; have NB483_484 := n5_; have NB484_483 := n6_; clear n0_ n1_ n2_ n3_ n4_ n5_ n6_; clear hb hbox hg) | ((with_reducible refine gate_callee (f := 64) rfl ?_); refine goesL_ (some 13) rfl rfl Try.func64 (by kernel_rfl) rfl #[.slice A0 l0.length c0] rfl (by (try simp only [List.map_toArray, List.map_cons, List.map_nil]); first | done | rfl | (simp only [List.length_drop, List.length_take]; rfl)) ?_; (with_reducible refine (cooperageref1_Get.calls k _ _ l0 t485 t486 t487 _ ?side1 ?side2 A2.out).mono ?_); (case side1 => repeat (first | exact (Kd.C_below HR0.out HB.out) | (with_reducible refine Kd.C_alloc ?_ _) | (with_reducible refine Kd.C_drewN ?_ _) | (with_reducible refine Kd.C_drew ?_))); (case side2 => exact HC0.out); rintro e w' ⟨rfl, ⟨nd, rfl⟩⟩; refine ⟨_, rfl, ?_⟩; (try (rw [drewN_self w16]; generalize hq_ : World.drewN w16 _ = w16; have n0_ : Aside0 (w16.heap[gb483]? = some (.cells #[.int .i64 0, .int .i64 0, .string (⟨#[]⟩ : ByteArray), .string (⟨#[]⟩ : ByteArray), .bool false] 34 (0, 0))) := ⟨by rw [← hq_]; exact (by (with_reducible repeat (first | refine bN ?_ _ | refine bD ?_ | refine bA ?_ _)); exact BK483.out)⟩; have n1_ : Aside0 (w16.heap[gb484]? = some (.cells #[.int .i64 0, .int .i64 0, .string (⟨#[]⟩ : ByteArray), .string (⟨#[]⟩ : ByteArray), .bool false] 34 (0, 0))) := ⟨by rw [← hq_]; exact (by (with_reducible repeat (first | refine bN ?_ _ | refine bD ?_ | refine bA ?_ _)); exact BK484.out)⟩; have n2_ : Aside0 (Below w.heap.size w w16) := ⟨by rw [← hq_]; exact (by repeat (first | (with_reducible first | exact HB.out | apply vA | apply vN | apply vD | refine vS ?_ GE483.out | refine vS ?_ GE484.out) | exact HB.out))⟩; clear BK483 BK484 HB hq_; have BK483 := n0_; have BK484 := n1_; have HB := n2_; clear n0_ n1_ n2_)); have hnb17 := NB484_483.out; have hnc17 := NB483_484.out; have hcz18_0 : w16.cell? ⟨gb484, 0, none⟩ = some (.int .i64 0) := (bC BK484.out 0).trans rfl; have hcz18_1 : w16.cell? ⟨gb484, 1, none⟩ = some (.int .i64 0) := (bC BK484.out 1).trans rfl; have hcz18_2 : w16.cell? ⟨gb484, 2, none⟩ = some (.string (⟨#[]⟩ : ByteArray)) := (bC BK484.out 2).trans rfl; have hcz18_3 : w16.cell? ⟨gb484, 3, none⟩ = some (.string (⟨#[]⟩ : ByteArray)) := (bC BK484.out 3).trans rfl; have hcz18_4 : w16.cell? ⟨gb484, 4, none⟩ = some (.bool false) := (bC BK484.out 4).trans rfl; have hfz18_0 := bF BK484.out 0; have hfz18_1 := bF BK484.out 1; have hfz18_2 := bF BK484.out 2; have hfz18_3 := bF BK484.out 3; have hfz18_4 := bF BK484.out 4; obtain ⟨i019, hi019, _, hsz19, _⟩ := info_parts info5; obtain ⟨A19, hcut19, hA19, hC19⟩ := print_drop_of (P := Try.prog) (Value.int .u8) 0 37 5 .i64 Try.underlying37 hi019 hsz19 A0 c0 l0 t486 (of_decide_eq_true (by first | (with_reducible assumption) | assumption)) (of_decide_eq_true (by first | (with_reducible assumption) | assumption)) HC0.out; have HR488 := Aside0.mk (Kd.C_of_reads (h1 := fun _ => rfl) (hA19 _ (Kd.reads_of_C HR0.out))); have HC488 := Aside0.mk hC19; clear hA19 hC19 hi019 hsz19) | ((with_reducible refine gate_callee (f := 64) rfl ?_); refine goesL_ (some 31) rfl rfl Try.func64 (by kernel_rfl) rfl #[.slice A19 (l0.drop (t486 : Int).toNat).length (c0 - t486.toNat)] rfl (by (try simp only [List.map_toArray, List.map_cons, List.map_nil]); first | done | (rw [show (l0.drop (t486 : Int).toNat).length = (l0.length - t486.toNat) from List.length_drop] <;> rfl) | rfl | (simp only [List.length_drop, List.length_take]; rfl)) ?_; (with_reducible refine (cooperageref1_Get.calls k _ _ (l0.drop (t486 : Int).toNat) t489 t490 t491 _ ?side1 ?side2 A11.out).mono ?_); (case side1 => exact Kd.C_below HR488.out (by repeat (first | (with_reducible first | exact HB.out | apply vA | apply vN | apply vD | refine vS ?_ GE483.out | refine vS ?_ GE484.out) | exact HB.out))); (case side2 => exact HC488.out); rintro e w' ⟨rfl, ⟨nd, rfl⟩⟩; refine ⟨_, rfl, ?_⟩) | ((with_reducible refine gate_callee (f := 65) rfl ?_); refine goesL_ (some 40) rfl rfl Try.func65 (by kernel_rfl) rfl #[.int .u64 t489] rfl (by (try simp only [List.map_toArray, List.map_cons, List.map_nil]); first | done | rfl | (simp only [List.length_drop, List.length_take]; rfl)) ?_; (with_reducible refine (cooperageref1_Unfold.calls t489 t492 _ A13.out).mono ?_); rintro e w' ⟨rfl, ⟨nd, rfl⟩⟩; refine ⟨_, rfl, ?_⟩))
            (try simp only [Act.put, List.setIfInBounds_toArray, List.set_cons_zero, List.set_cons_succ])
            go_cut [49] (fun v49 wc => ∃ (kq : Nat) (x49_13 : Bool), v49 = .bool x49_13 ∧ Aside0 (cooperageref1_GetRecord.j0 kq l0 t486 t490 x49_13 (wrap64 (t485)) t492 (⟨#[]⟩ : ByteArray) (⟨#[]⟩ : ByteArray) false = some (r1, r2, r3, r4, r5, r6, r7)) ∧ Aside0 (kq ≤ k) ∧ Aside0 (wc.heap[gb483]? = some (.cells #[.int .i64 0, .int .i64 0, .string (⟨#[]⟩ : ByteArray), .string (⟨#[]⟩ : ByteArray), .bool false] 34 (0, 0))) ∧ Aside0 (wc.heap[gb484]? = some (.cells #[.int .i64 (wrap64 (t485)), .int .i64 t492, .string (⟨#[]⟩ : ByteArray), .string (⟨#[]⟩ : ByteArray), .bool false] 34 (0, 0))) ∧ Aside0 (Below w.heap.size w wc))
            case first =>
              have H := HC14.out
              clear HC14
              by_cases c20 : t492 < (-1099511627776)
              · rw [if_pos c20] at H
                have c20b0 : decide (t492 < (-1099511627776)) = true := decide_eq_true c20
                clear c20
                (first | rw [c20b0] | (simp only [i64_w, i32_w]; rw [c20b0]) | skip)
                have H' := Aside0.mk H
                clear H
                have hnb21 := NB484_483.out
                have hnc21 := NB483_484.out
                have hcz22_0 : w16.cell? ⟨gb484, 0, none⟩ = some (.int .i64 0) := (bC BK484.out 0).trans rfl
                have hcz22_1 : w16.cell? ⟨gb484, 1, none⟩ = some (.int .i64 0) := (bC BK484.out 1).trans rfl
                have hcz22_2 : w16.cell? ⟨gb484, 2, none⟩ = some (.string (⟨#[]⟩ : ByteArray)) := (bC BK484.out 2).trans rfl
                have hcz22_3 : w16.cell? ⟨gb484, 3, none⟩ = some (.string (⟨#[]⟩ : ByteArray)) := (bC BK484.out 3).trans rfl
                have hcz22_4 : w16.cell? ⟨gb484, 4, none⟩ = some (.bool false) := (bC BK484.out 4).trans rfl
                have hfz22_0 := bF BK484.out 0
                have hfz22_1 := bF BK484.out 1
                have hfz22_2 := bF BK484.out 2
                have hfz22_3 := bF BK484.out 3
                have hfz22_4 := bF BK484.out 4
                go_wp2
                go_meet
                case rel => exact ⟨_, (true), (by first | rfl | (simp; done) | (simp [*]; done)), H', ⟨by first | omega | exact Nat.le_refl _⟩, ⟨by (with_reducible repeat (first | refine bN ?_ _ | refine bD ?_ | refine bA ?_ _)); refine bR ?_ NB483_484.out _; (with_reducible repeat (first | refine bN ?_ _ | refine bD ?_ | refine bA ?_ _)); refine bR ?_ NB483_484.out _; (with_reducible repeat (first | refine bN ?_ _ | refine bD ?_ | refine bA ?_ _)); exact BK483.out⟩, ⟨by (with_reducible repeat (first | refine bN ?_ _ | refine bD ?_ | refine bA ?_ _)); refine bP (cs := #[.int .i64 (wrap64 (t485)), .int .i64 0, .string (⟨#[]⟩ : ByteArray), .string (⟨#[]⟩ : ByteArray), .bool false]) ?_ 1 _ rfl; (with_reducible repeat (first | refine bN ?_ _ | refine bD ?_ | refine bA ?_ _)); refine bP (cs := #[.int .i64 0, .int .i64 0, .string (⟨#[]⟩ : ByteArray), .string (⟨#[]⟩ : ByteArray), .bool false]) ?_ 0 _ rfl; (with_reducible repeat (first | refine bN ?_ _ | refine bD ?_ | refine bA ?_ _)); exact BK484.out⟩, ⟨by repeat (first | (with_reducible first | exact HB.out | apply vA | apply vN | apply vD | refine vS ?_ GE483.out | refine vS ?_ GE484.out) | exact HB.out)⟩⟩
              · rw [if_neg c20] at H
                have c20b0 : decide (t492 < (-1099511627776)) = false := decide_eq_false c20
                clear c20
                (first | rw [c20b0] | (simp only [i64_w, i32_w]; rw [c20b0]) | skip)
                have H' := Aside0.mk H
                clear H
                have hnb23 := NB484_483.out
                have hnc23 := NB483_484.out
                have hcz24_0 : w16.cell? ⟨gb484, 0, none⟩ = some (.int .i64 0) := (bC BK484.out 0).trans rfl
                have hcz24_1 : w16.cell? ⟨gb484, 1, none⟩ = some (.int .i64 0) := (bC BK484.out 1).trans rfl
                have hcz24_2 : w16.cell? ⟨gb484, 2, none⟩ = some (.string (⟨#[]⟩ : ByteArray)) := (bC BK484.out 2).trans rfl
                have hcz24_3 : w16.cell? ⟨gb484, 3, none⟩ = some (.string (⟨#[]⟩ : ByteArray)) := (bC BK484.out 3).trans rfl
                have hcz24_4 : w16.cell? ⟨gb484, 4, none⟩ = some (.bool false) := (bC BK484.out 4).trans rfl
                have hfz24_0 := bF BK484.out 0
                have hfz24_1 := bF BK484.out 1
                have hfz24_2 := bF BK484.out 2
                have hfz24_3 := bF BK484.out 3
                have hfz24_4 := bF BK484.out 4
                go_wp2
                go_meet
                case rel => exact ⟨_, (decide (t492 > 1099511627776)), (by first | rfl | (simp; done) | (simp [*]; done)), H', ⟨by first | omega | exact Nat.le_refl _⟩, ⟨by (with_reducible repeat (first | refine bN ?_ _ | refine bD ?_ | refine bA ?_ _)); refine bR ?_ NB483_484.out _; (with_reducible repeat (first | refine bN ?_ _ | refine bD ?_ | refine bA ?_ _)); refine bR ?_ NB483_484.out _; (with_reducible repeat (first | refine bN ?_ _ | refine bD ?_ | refine bA ?_ _)); exact BK483.out⟩, ⟨by (with_reducible repeat (first | refine bN ?_ _ | refine bD ?_ | refine bA ?_ _)); refine bP (cs := #[.int .i64 (wrap64 (t485)), .int .i64 0, .string (⟨#[]⟩ : ByteArray), .string (⟨#[]⟩ : ByteArray), .bool false]) ?_ 1 _ rfl; (with_reducible repeat (first | refine bN ?_ _ | refine bD ?_ | refine bA ?_ _)); refine bP (cs := #[.int .i64 0, .int .i64 0, .string (⟨#[]⟩ : ByteArray), .string (⟨#[]⟩ : ByteArray), .bool false]) ?_ 0 _ rfl; (with_reducible repeat (first | refine bN ?_ _ | refine bD ?_ | refine bA ?_ _)); exact BK484.out⟩, ⟨by repeat (first | (with_reducible first | exact HB.out | apply vA | apply vN | apply vD | refine vS ?_ GE483.out | refine vS ?_ GE484.out) | exact HB.out)⟩⟩
            case rest =>
              clear HC14
              try clear c1
              try clear c2
              try clear p2
              try clear c3
              try clear c3b0
              try clear c3b1
              try clear c4
              try clear c4b0
              try clear c6
              try clear p6
              try clear c7
              try clear c9
              try clear c9b0
              try clear c9b1
              try clear c10
              try clear c10b0
              try clear c10b1
              try clear c12
              try clear c12b0
              try clear c12b1
              try clear c17
              try clear c20
              try clear c20b0
              try clear c21
              try clear c23
              try clear hcz18_0
              try clear hcz18_1
              try clear hcz18_2
              try clear hcz18_3
              try clear hcz18_4
              try clear hcz22_0
              try clear hcz22_1
              try clear hcz22_2
              try clear hcz22_3
              try clear hcz22_4
              try clear hcz24_0
              try clear hcz24_1
              try clear hcz24_2
              try clear hcz24_3
              try clear hcz24_4
              try clear hcz8_0
              try clear hcz8_1
              try clear hcz8_2
              try clear hcz8_3
              try clear hcz8_4
              try clear hfz18_0
              try clear hfz18_1
              try clear hfz18_2
              try clear hfz18_3
              try clear hfz18_4
              try clear hfz22_0
              try clear hfz22_1
              try clear hfz22_2
              try clear hfz22_3
              try clear hfz22_4
              try clear hfz24_0
              try clear hfz24_1
              try clear hfz24_2
              try clear hfz24_3
              try clear hfz24_4
              try clear hfz8_0
              try clear hfz8_1
              try clear hfz8_2
              try clear hfz8_3
              try clear hfz8_4
              obtain ⟨kq, x49_13, rfl, HA, HJ13, BK483, BK484, HB⟩ := hcut
              cases kq with
              | zero => exact absurd HA.out (by simp [cooperageref1_GetRecord.j0])
              | succ kj13 =>
                have H := HA.out
                clear HA
                simp only [cooperageref1_GetRecord.j0] at H
                by_cases c25 : x49_13 = true
                · subst c25
                  have H1 : (some (0, 0, (⟨#[]⟩ : ByteArray), (⟨#[]⟩ : ByteArray), false, 0, 2)) = some (r1, r2, r3, r4, r5, r6, r7) := by rw [if_pos rfl] at H; exact H
                  clear H
                  have H := H1
                  clear H1
                  simp only [Option.some.injEq, Prod.mk.injEq] at H
                  obtain ⟨rfl, rfl, rfl, rfl, rfl, rfl, rfl⟩ := H
                  have hnb26 := NB483_484.out
                  have hnc26 := NB484_483.out
                  have hcz27_0 : wc.cell? ⟨gb483, 0, none⟩ = some (.int .i64 0) := (bC BK483.out 0).trans rfl
                  have hcz27_1 : wc.cell? ⟨gb483, 1, none⟩ = some (.int .i64 0) := (bC BK483.out 1).trans rfl
                  have hcz27_2 : wc.cell? ⟨gb483, 2, none⟩ = some (.string (⟨#[]⟩ : ByteArray)) := (bC BK483.out 2).trans rfl
                  have hcz27_3 : wc.cell? ⟨gb483, 3, none⟩ = some (.string (⟨#[]⟩ : ByteArray)) := (bC BK483.out 3).trans rfl
                  have hcz27_4 : wc.cell? ⟨gb483, 4, none⟩ = some (.bool false) := (bC BK483.out 4).trans rfl
                  have hfz27_0 := bF BK483.out 0
                  have hfz27_1 := bF BK483.out 1
                  have hfz27_2 := bF BK483.out 2
                  have hfz27_3 := bF BK483.out 3
                  have hfz27_4 := bF BK483.out 4
                  go_wp2
                  refine bodyPost_ret (results_ctt rfl _ _ gb483 34 #[.int .i64 0, .int .i64 0, .string (⟨#[]⟩ : ByteArray), .string (⟨#[]⟩ : ByteArray), .bool false] (0, 0) _ rfl (by (with_reducible repeat (first | refine bN ?_ _ | refine bD ?_ | refine bA ?_ _)); refine bP (cs := #[.int .i64 0, .int .i64 0, .string (⟨#[]⟩ : ByteArray), .string (⟨#[]⟩ : ByteArray), .bool false]) ?_ 4 _ rfl; (with_reducible repeat (first | refine bN ?_ _ | refine bD ?_ | refine bA ?_ _)); refine bP (cs := #[.int .i64 0, .int .i64 0, .string (⟨#[]⟩ : ByteArray), .string (⟨#[]⟩ : ByteArray), .bool false]) ?_ 3 _ rfl; (with_reducible repeat (first | refine bN ?_ _ | refine bD ?_ | refine bA ?_ _)); refine bP (cs := #[.int .i64 0, .int .i64 0, .string (⟨#[]⟩ : ByteArray), .string (⟨#[]⟩ : ByteArray), .bool false]) ?_ 2 _ rfl; (with_reducible repeat (first | refine bN ?_ _ | refine bD ?_ | refine bA ?_ _)); refine bP (cs := #[.int .i64 0, .int .i64 0, .string (⟨#[]⟩ : ByteArray), .string (⟨#[]⟩ : ByteArray), .bool false]) ?_ 1 _ rfl; (with_reducible repeat (first | refine bN ?_ _ | refine bD ?_ | refine bA ?_ _)); refine bP (cs := #[.int .i64 0, .int .i64 0, .string (⟨#[]⟩ : ByteArray), .string (⟨#[]⟩ : ByteArray), .bool false]) ?_ 0 _ rfl; (with_reducible repeat (first | refine bN ?_ _ | refine bD ?_ | refine bA ?_ _)); exact BK483.out) Try.underlying34 rfl (by kernel_rfl)) rfl ?_
                  exact ⟨by first | rfl | (simp [*, eN, eS] <;> rfl) | (simp [eN, eS]; generalize ByteArray.toList _ = l_; cases l_ <;> rfl), by repeat (first | (with_reducible first | exact HB.out | apply vA | apply vN | apply vD | refine vS ?_ GE483.out | refine vS ?_ GE484.out) | exact HB.out)⟩
                · replace c25 := Bool.eq_false_iff.mpr c25
                  subst c25
                  have H1 : (if (wrap64 (t486 + t490)) ≥ (l0.length : Int) then (some (0, 0, (⟨#[]⟩ : ByteArray), (⟨#[]⟩ : ByteArray), false, 0, 4)) else (if 0 ≤ (wrap64 (t486 + t490)) then (if (wrap64 (t486 + t490)) < (l0.length : Int) then (if (rd l0 (wrap64 (t486 + t490))) > 1 then (some (0, 0, (⟨#[]⟩ : ByteArray), (⟨#[]⟩ : ByteArray), false, 0, 2)) else ((cooperageref1_part.f kj13 l0 (wrap64 ((wrap64 (t486 + t490)) + 1)) 200).bind fun bt495 => (if bt495.2.2 = 0 then ((cooperageref1_part.f kj13 l0 bt495.2.1 2000).bind fun bt498 => (if bt498.2.2 = 0 then ((cooperageref1_Right.f (wrap64 (t485)) t492 bt495.1 bt498.1 ((rd l0 (wrap64 (t486 + t490))) == 1)).bind fun t501 => (if t501 = true then (some ((wrap64 (t485)), t492, bt495.1, bt498.1, ((rd l0 (wrap64 (t486 + t490))) == 1), bt498.2.1, 0)) else (some (0, 0, (⟨#[]⟩ : ByteArray), (⟨#[]⟩ : ByteArray), false, 0, 2)))) else (some (0, 0, (⟨#[]⟩ : ByteArray), (⟨#[]⟩ : ByteArray), false, 0, bt498.2.2)))) else (some (0, 0, (⟨#[]⟩ : ByteArray), (⟨#[]⟩ : ByteArray), false, 0, bt495.2.2))))) else (none)) else (none))) = some (r1, r2, r3, r4, r5, r6, r7) := by rw [if_neg (show ¬ (false = true) by decide)] at H; exact H
                  clear H
                  have H := H1
                  clear H1
                  by_cases c28 : (wrap64 (t486 + t490)) ≥ (l0.length : Int)
                  · rw [if_pos c28] at H
                    have c28b0 : decide ((l0.length : Int) ≤ (wrap64 (t486 + t490))) = true := decide_eq_true c28
                    clear c28
                    simp only [Option.some.injEq, Prod.mk.injEq] at H
                    obtain ⟨rfl, rfl, rfl, rfl, rfl, rfl, rfl⟩ := H
                    have hnb29 := NB483_484.out
                    have hnc29 := NB484_483.out
                    have hcz30_0 : wc.cell? ⟨gb483, 0, none⟩ = some (.int .i64 0) := (bC BK483.out 0).trans rfl
                    have hcz30_1 : wc.cell? ⟨gb483, 1, none⟩ = some (.int .i64 0) := (bC BK483.out 1).trans rfl
                    have hcz30_2 : wc.cell? ⟨gb483, 2, none⟩ = some (.string (⟨#[]⟩ : ByteArray)) := (bC BK483.out 2).trans rfl
                    have hcz30_3 : wc.cell? ⟨gb483, 3, none⟩ = some (.string (⟨#[]⟩ : ByteArray)) := (bC BK483.out 3).trans rfl
                    have hcz30_4 : wc.cell? ⟨gb483, 4, none⟩ = some (.bool false) := (bC BK483.out 4).trans rfl
                    have hfz30_0 := bF BK483.out 0
                    have hfz30_1 := bF BK483.out 1
                    have hfz30_2 := bF BK483.out 2
                    have hfz30_3 := bF BK483.out 3
                    have hfz30_4 := bF BK483.out 4
                    go_wp2
                    refine bodyPost_ret (results_ctt rfl _ _ gb483 34 #[.int .i64 0, .int .i64 0, .string (⟨#[]⟩ : ByteArray), .string (⟨#[]⟩ : ByteArray), .bool false] (0, 0) _ rfl (by (with_reducible repeat (first | refine bN ?_ _ | refine bD ?_ | refine bA ?_ _)); refine bP (cs := #[.int .i64 0, .int .i64 0, .string (⟨#[]⟩ : ByteArray), .string (⟨#[]⟩ : ByteArray), .bool false]) ?_ 4 _ rfl; (with_reducible repeat (first | refine bN ?_ _ | refine bD ?_ | refine bA ?_ _)); refine bP (cs := #[.int .i64 0, .int .i64 0, .string (⟨#[]⟩ : ByteArray), .string (⟨#[]⟩ : ByteArray), .bool false]) ?_ 3 _ rfl; (with_reducible repeat (first | refine bN ?_ _ | refine bD ?_ | refine bA ?_ _)); refine bP (cs := #[.int .i64 0, .int .i64 0, .string (⟨#[]⟩ : ByteArray), .string (⟨#[]⟩ : ByteArray), .bool false]) ?_ 2 _ rfl; (with_reducible repeat (first | refine bN ?_ _ | refine bD ?_ | refine bA ?_ _)); refine bP (cs := #[.int .i64 0, .int .i64 0, .string (⟨#[]⟩ : ByteArray), .string (⟨#[]⟩ : ByteArray), .bool false]) ?_ 1 _ rfl; (with_reducible repeat (first | refine bN ?_ _ | refine bD ?_ | refine bA ?_ _)); refine bP (cs := #[.int .i64 0, .int .i64 0, .string (⟨#[]⟩ : ByteArray), .string (⟨#[]⟩ : ByteArray), .bool false]) ?_ 0 _ rfl; (with_reducible repeat (first | refine bN ?_ _ | refine bD ?_ | refine bA ?_ _)); exact BK483.out) Try.underlying34 rfl (by kernel_rfl)) rfl ?_
                    exact ⟨by first | rfl | (simp [*, eN, eS] <;> rfl) | (simp [eN, eS]; generalize ByteArray.toList _ = l_; cases l_ <;> rfl), by repeat (first | (with_reducible first | exact HB.out | apply vA | apply vN | apply vD | refine vS ?_ GE483.out | refine vS ?_ GE484.out) | exact HB.out)⟩
                  · rw [if_neg c28] at H
                    have c28b0 : decide ((l0.length : Int) ≤ (wrap64 (t486 + t490))) = false := decide_eq_false c28
                    clear c28
                    obtain ⟨ji31, hji31⟩ : ∃ j_ : Int, (wrap64 (t486 + t490)) = j_ := ⟨_, rfl⟩
                    replace H : (if 0 ≤ (ji31) then (if (ji31) < (l0.length : Int) then (if (rd l0 (ji31)) > 1 then (some (0, 0, (⟨#[]⟩ : ByteArray), (⟨#[]⟩ : ByteArray), false, 0, 2)) else ((cooperageref1_part.f kj13 l0 (wrap64 ((ji31) + 1)) 200).bind fun bt495 => (if bt495.2.2 = 0 then ((cooperageref1_part.f kj13 l0 bt495.2.1 2000).bind fun bt498 => (if bt498.2.2 = 0 then ((cooperageref1_Right.f (wrap64 (t485)) t492 bt495.1 bt498.1 ((rd l0 (ji31)) == 1)).bind fun t501 => (if t501 = true then (some ((wrap64 (t485)), t492, bt495.1, bt498.1, ((rd l0 (ji31)) == 1), bt498.2.1, 0)) else (some (0, 0, (⟨#[]⟩ : ByteArray), (⟨#[]⟩ : ByteArray), false, 0, 2)))) else (some (0, 0, (⟨#[]⟩ : ByteArray), (⟨#[]⟩ : ByteArray), false, 0, bt498.2.2)))) else (some (0, 0, (⟨#[]⟩ : ByteArray), (⟨#[]⟩ : ByteArray), false, 0, bt495.2.2))))) else (none)) else (none)) = some (r1, r2, r3, r4, r5, r6, r7) := by first | (rw [hji31] at H; exact H) | (simp only [hji31] at H ⊢; exact H)
                    (try rw [hji31] at c28b0)
                    have hji31w : (IntKind.i64.wrap (t486 + t490)) = ji31 := (i64_w _).trans hji31
                    by_cases c32 : 0 ≤ (ji31)
                    · rw [if_pos c32] at H
                      have c32b0 : decide (0 ≤ (ji31)) = true := decide_eq_true c32
                      clear c32
                      by_cases c33 : (ji31) < (l0.length : Int)
                      · rw [if_pos c33] at H
                        have c33b0 : decide ((ji31) < (l0.length : Int)) = true := decide_eq_true c33
                        clear c33
                        by_cases c34 : (rd l0 (ji31)) > 1
                        · rw [if_pos c34] at H
                          have c34b0 : decide (1 < (rd l0 (ji31))) = true := decide_eq_true c34
                          clear c34
                          simp only [Option.some.injEq, Prod.mk.injEq] at H
                          obtain ⟨rfl, rfl, rfl, rfl, rfl, rfl, rfl⟩ := H
                          have p493 : 0 ≤ ((ji31) : Int) := of_decide_eq_true (by first | (with_reducible assumption) | assumption)
                          have q493 : (ji31) < (l0.length : Int) := of_decide_eq_true (by first | (with_reducible assumption) | assumption)
                          obtain ⟨ad493, e493, hx493_0⟩ := Kd.at_int HR0.out (ji31) p493 q493
                          cases e493
                          replace hx493_0 := (HB.out.cell (World.block_lt_of_cell? w _ hx493_0)).trans hx493_0
                          replace p493 := eq_true p493
                          replace q493 := eq_true q493
                          have hnb35 := NB483_484.out
                          have hnc35 := NB484_483.out
                          have hcz36_0 : wc.cell? ⟨gb483, 0, none⟩ = some (.int .i64 0) := (bC BK483.out 0).trans rfl
                          have hcz36_1 : wc.cell? ⟨gb483, 1, none⟩ = some (.int .i64 0) := (bC BK483.out 1).trans rfl
                          have hcz36_2 : wc.cell? ⟨gb483, 2, none⟩ = some (.string (⟨#[]⟩ : ByteArray)) := (bC BK483.out 2).trans rfl
                          have hcz36_3 : wc.cell? ⟨gb483, 3, none⟩ = some (.string (⟨#[]⟩ : ByteArray)) := (bC BK483.out 3).trans rfl
                          have hcz36_4 : wc.cell? ⟨gb483, 4, none⟩ = some (.bool false) := (bC BK483.out 4).trans rfl
                          have hfz36_0 := bF BK483.out 0
                          have hfz36_1 := bF BK483.out 1
                          have hfz36_2 := bF BK483.out 2
                          have hfz36_3 := bF BK483.out 3
                          have hfz36_4 := bF BK483.out 4
                          go_wp2
                          refine bodyPost_ret (results_ctt rfl _ _ gb483 34 #[.int .i64 0, .int .i64 0, .string (⟨#[]⟩ : ByteArray), .string (⟨#[]⟩ : ByteArray), .bool false] (0, 0) _ rfl (by (with_reducible repeat (first | refine bN ?_ _ | refine bD ?_ | refine bA ?_ _)); refine bP (cs := #[.int .i64 0, .int .i64 0, .string (⟨#[]⟩ : ByteArray), .string (⟨#[]⟩ : ByteArray), .bool false]) ?_ 4 _ rfl; (with_reducible repeat (first | refine bN ?_ _ | refine bD ?_ | refine bA ?_ _)); refine bP (cs := #[.int .i64 0, .int .i64 0, .string (⟨#[]⟩ : ByteArray), .string (⟨#[]⟩ : ByteArray), .bool false]) ?_ 3 _ rfl; (with_reducible repeat (first | refine bN ?_ _ | refine bD ?_ | refine bA ?_ _)); refine bP (cs := #[.int .i64 0, .int .i64 0, .string (⟨#[]⟩ : ByteArray), .string (⟨#[]⟩ : ByteArray), .bool false]) ?_ 2 _ rfl; (with_reducible repeat (first | refine bN ?_ _ | refine bD ?_ | refine bA ?_ _)); refine bP (cs := #[.int .i64 0, .int .i64 0, .string (⟨#[]⟩ : ByteArray), .string (⟨#[]⟩ : ByteArray), .bool false]) ?_ 1 _ rfl; (with_reducible repeat (first | refine bN ?_ _ | refine bD ?_ | refine bA ?_ _)); refine bP (cs := #[.int .i64 0, .int .i64 0, .string (⟨#[]⟩ : ByteArray), .string (⟨#[]⟩ : ByteArray), .bool false]) ?_ 0 _ rfl; (with_reducible repeat (first | refine bN ?_ _ | refine bD ?_ | refine bA ?_ _)); exact BK483.out) Try.underlying34 rfl (by kernel_rfl)) rfl ?_
                          exact ⟨by first | rfl | (simp [eN, eS] <;> rfl) | (simp only [← hji31]; first | rfl | (simp [eN, eS] <;> rfl)) | (simp [*, eN, eS] <;> rfl) | (simp [eN, eS]; generalize ByteArray.toList _ = l_; cases l_ <;> rfl), by repeat (first | (with_reducible first | exact HB.out | apply vA | apply vN | apply vD | refine vS ?_ GE483.out | refine vS ?_ GE484.out) | exact HB.out)⟩
                        · rw [if_neg c34] at H
                          have c34b0 : decide (1 < (rd l0 (ji31))) = false := decide_eq_false c34
                          clear c34
                          replace H := Option.bind_eq_some_iff.mp H
                          obtain ⟨⟨t495, t496, t497⟩, A370, H⟩ := H
                          replace H : (if t497 = 0 then ((cooperageref1_part.f kj13 l0 t496 2000).bind fun bt498 => (if bt498.2.2 = 0 then ((cooperageref1_Right.f (wrap64 (t485)) t492 t495 bt498.1 ((rd l0 (ji31)) == 1)).bind fun t501 => (if t501 = true then (some ((wrap64 (t485)), t492, t495, bt498.1, ((rd l0 (ji31)) == 1), bt498.2.1, 0)) else (some (0, 0, (⟨#[]⟩ : ByteArray), (⟨#[]⟩ : ByteArray), false, 0, 2)))) else (some (0, 0, (⟨#[]⟩ : ByteArray), (⟨#[]⟩ : ByteArray), false, 0, bt498.2.2)))) else (some (0, 0, (⟨#[]⟩ : ByteArray), (⟨#[]⟩ : ByteArray), false, 0, t497))) = some (r1, r2, r3, r4, r5, r6, r7) := H
                          have A37 := Aside0.mk A370
                          clear A370
                          by_cases c38 : t497 = 0
                          · rw [if_pos c38] at H
                            have c38b0 : (t497 == 0) = true := beq_iff_eq.mpr c38
                            have c38b1 : (t497 != 0) = false := bne_eq_false_iff_eq.mpr c38
                            clear c38
                            replace H := Option.bind_eq_some_iff.mp H
                            obtain ⟨⟨t498, t499, t500⟩, A390, H⟩ := H
                            replace H : (if t500 = 0 then ((cooperageref1_Right.f (wrap64 (t485)) t492 t495 t498 ((rd l0 (ji31)) == 1)).bind fun t501 => (if t501 = true then (some ((wrap64 (t485)), t492, t495, t498, ((rd l0 (ji31)) == 1), t499, 0)) else (some (0, 0, (⟨#[]⟩ : ByteArray), (⟨#[]⟩ : ByteArray), false, 0, 2)))) else (some (0, 0, (⟨#[]⟩ : ByteArray), (⟨#[]⟩ : ByteArray), false, 0, t500))) = some (r1, r2, r3, r4, r5, r6, r7) := H
                            have A39 := Aside0.mk A390
                            clear A390
                            by_cases c40 : t500 = 0
                            · rw [if_pos c40] at H
                              have c40b0 : (t500 == 0) = true := beq_iff_eq.mpr c40
                              have c40b1 : (t500 != 0) = false := bne_eq_false_iff_eq.mpr c40
                              clear c40
                              replace H := Option.bind_eq_some_iff.mp H
                              obtain ⟨t501, A410, H⟩ := H
                              replace H : (if t501 = true then (some ((wrap64 (t485)), t492, t495, t498, ((rd l0 (ji31)) == 1), t499, 0)) else (some (0, 0, (⟨#[]⟩ : ByteArray), (⟨#[]⟩ : ByteArray), false, 0, 2))) = some (r1, r2, r3, r4, r5, r6, r7) := H
                              have A41 := Aside0.mk A410
                              clear A410
                              by_cases c42 : t501 = true
                              · subst c42
                                have H1 : (some ((wrap64 (t485)), t492, t495, t498, ((rd l0 (ji31)) == 1), t499, 0)) = some (r1, r2, r3, r4, r5, r6, r7) := by rw [if_pos rfl] at H; exact H
                                clear H
                                have H := H1
                                clear H1
                                simp only [Option.some.injEq, Prod.mk.injEq] at H
                                obtain ⟨rfl, rfl, rfl, rfl, rfl, rfl, rfl⟩ := H
                                have p493 : 0 ≤ ((ji31) : Int) := of_decide_eq_true (by first | (with_reducible assumption) | assumption)
                                have q493 : (ji31) < (l0.length : Int) := of_decide_eq_true (by first | (with_reducible assumption) | assumption)
                                obtain ⟨ad493, e493, hx493_0⟩ := Kd.at_int HR0.out (ji31) p493 q493
                                cases e493
                                replace hx493_0 := (HB.out.cell (World.block_lt_of_cell? w _ hx493_0)).trans hx493_0
                                replace p493 := eq_true p493
                                replace q493 := eq_true q493
                                have p494 : 0 ≤ ((ji31) : Int) := of_decide_eq_true (by first | (with_reducible assumption) | assumption)
                                have q494 : (ji31) < (l0.length : Int) := of_decide_eq_true (by first | (with_reducible assumption) | assumption)
                                obtain ⟨ad494, e494, hx494_0⟩ := Kd.at_int HR0.out (ji31) p494 q494
                                obtain rfl : ad493 = ad494 := (by injection e494)
                                replace hx494_0 := (HB.out.cell (World.block_lt_of_cell? w _ hx494_0)).trans hx494_0
                                replace p494 := eq_true p494
                                replace q494 := eq_true q494
                                have hnb43 := NB484_483.out
                                have hnc43 := NB483_484.out
                                have hcz44_0 : wc.cell? ⟨gb484, 0, none⟩ = some (.int .i64 (wrap64 (t485))) := (bC BK484.out 0).trans rfl
                                have hcz44_1 : wc.cell? ⟨gb484, 1, none⟩ = some (.int .i64 t492) := (bC BK484.out 1).trans rfl
                                have hcz44_2 : wc.cell? ⟨gb484, 2, none⟩ = some (.string (⟨#[]⟩ : ByteArray)) := (bC BK484.out 2).trans rfl
                                have hcz44_3 : wc.cell? ⟨gb484, 3, none⟩ = some (.string (⟨#[]⟩ : ByteArray)) := (bC BK484.out 3).trans rfl
                                have hcz44_4 : wc.cell? ⟨gb484, 4, none⟩ = some (.bool false) := (bC BK484.out 4).trans rfl
                                have hfz44_0 := bF BK484.out 0
                                have hfz44_1 := bF BK484.out 1
                                have hfz44_2 := bF BK484.out 2
                                have hfz44_3 := bF BK484.out 3
                                have hfz44_4 := bF BK484.out 4
                                go_wp2_with (first | ((with_reducible refine gate_callee (f := 66) rfl ?_); refine goesL_ (some 76) rfl rfl Try.func66 (by kernel_rfl) rfl #[.slice (some ad493) l0.length c0, .int .i64 (wrap64 ((ji31) + 1)), .int .i64 200] rfl (by (try simp only [List.map_toArray, List.map_cons, List.map_nil]); first | done | (simp only [hji31]; rfl) | rfl | (simp only [List.length_drop, List.length_take]; rfl)) ?_; (with_reducible refine (cooperageref1_part.calls kj13 _ _ l0 (wrap64 ((ji31) + 1)) 200 t495 t496 t497 _ ?side1 ?side2 A37.out).mono ?_); (case side1 => exact Kd.C_below HR0.out (by repeat (first | (with_reducible first | exact HB.out | apply vA | apply vN | apply vD | refine vS ?_ GE483.out | refine vS ?_ GE484.out) | exact HB.out))); (case side2 => exact HC0.out); rintro e w' ⟨rfl, ⟨nd, rfl⟩⟩; refine ⟨_, rfl, ?_⟩) | ((with_reducible refine gate_callee (f := 66) rfl ?_); refine goesL_ (some 88) rfl rfl Try.func66 (by kernel_rfl) rfl #[.slice (some ad493) l0.length c0, .int .i64 t496, .int .i64 2000] rfl (by (try simp only [List.map_toArray, List.map_cons, List.map_nil]); first | done | rfl | (simp only [List.length_drop, List.length_take]; rfl)) ?_; (with_reducible refine (cooperageref1_part.calls kj13 _ _ l0 t496 2000 t498 t499 t500 _ ?side1 ?side2 A39.out).mono ?_); (case side1 => exact Kd.C_below HR0.out (by repeat (first | (with_reducible first | exact HB.out | apply vA | apply vN | apply vD | refine vS ?_ GE483.out | refine vS ?_ GE484.out) | exact HB.out))); (case side2 => exact HC0.out); rintro e w' ⟨rfl, ⟨nd, rfl⟩⟩; refine ⟨_, rfl, ?_⟩) | ((with_reducible refine gate_callee (f := 16) rfl ?_); refine goesL_ (some 98) rfl rfl Try.func16 (by kernel_rfl) rfl #[.agg #[.int .i64 (wrap64 (t485)), .int .i64 t492, .string t495, .string t498, .bool ((rd l0 (ji31)) == 1)]] rfl (by (try simp only [List.map_toArray, List.map_cons, List.map_nil]); first | done | (simp only [hji31]; rfl) | rfl | (simp only [List.length_drop, List.length_take]; rfl)) ?_; (with_reducible refine (cooperageref1_Right.calls (wrap64 (t485)) t492 t495 t498 ((rd l0 (ji31)) == 1) true _ A41.out).mono ?_); rintro e w45 ⟨rfl, hb⟩; refine ⟨_, rfl, ?_⟩; have n0_ := Aside0.mk (bB (g := gb483) (o := .cells #[.int .i64 0, .int .i64 0, .string (⟨#[]⟩ : ByteArray), .string (⟨#[]⟩ : ByteArray), .bool false] 34 (0, 0)) (by (with_reducible repeat (first | refine bN ?_ _ | refine bD ?_ | refine bA ?_ _)); refine bR ?_ NB483_484.out _; (with_reducible repeat (first | refine bN ?_ _ | refine bD ?_ | refine bA ?_ _)); refine bR ?_ NB483_484.out _; (with_reducible repeat (first | refine bN ?_ _ | refine bD ?_ | refine bA ?_ _)); refine bR ?_ NB483_484.out _; (with_reducible repeat (first | refine bN ?_ _ | refine bD ?_ | refine bA ?_ _)); exact BK483.out) hb); have n1_ := Aside0.mk (bB (g := gb484) (o := .cells #[.int .i64 (wrap64 (t485)), .int .i64 t492, .string t495, .string t498, .bool ((rd l0 (ji31)) == 1)] 34 (0, 0)) (by (with_reducible repeat (first | refine bN ?_ _ | refine bD ?_ | refine bA ?_ _)); refine bP (cs := #[.int .i64 (wrap64 (t485)), .int .i64 t492, .string t495, .string (⟨#[]⟩ : ByteArray), .bool ((rd l0 (ji31)) == 1)]) ?_ 3 _ rfl; (with_reducible repeat (first | refine bN ?_ _ | refine bD ?_ | refine bA ?_ _)); refine bP (cs := #[.int .i64 (wrap64 (t485)), .int .i64 t492, .string (⟨#[]⟩ : ByteArray), .string (⟨#[]⟩ : ByteArray), .bool ((rd l0 (ji31)) == 1)]) ?_ 2 _ rfl; (with_reducible repeat (first | refine bN ?_ _ | refine bD ?_ | refine bA ?_ _)); refine bP (cs := #[.int .i64 (wrap64 (t485)), .int .i64 t492, .string (⟨#[]⟩ : ByteArray), .string (⟨#[]⟩ : ByteArray), .bool false]) ?_ 4 _ rfl; (with_reducible repeat (first | refine bN ?_ _ | refine bD ?_ | refine bA ?_ _)); exact BK484.out) hb); have n2_ := Aside0.mk (vT (by repeat (first | (with_reducible first | exact HB.out | apply vA | apply vN | apply vD | refine vS ?_ GE483.out | refine vS ?_ GE484.out) | exact HB.out)) hb); clear BK483; clear BK484; clear HB; have BK483 := n0_; have BK484 := n1_; have HB := n2_; clear n0_ n1_ n2_; (try clear hb); (try clear hb2); (try clear hk); (try clear hi); have hcz46_0 : w45.cell? ⟨gb484, 0, none⟩ = some (.int .i64 (wrap64 (t485))) := (bC BK484.out 0).trans rfl; have hcz46_1 : w45.cell? ⟨gb484, 1, none⟩ = some (.int .i64 t492) := (bC BK484.out 1).trans rfl; have hcz46_2 : w45.cell? ⟨gb484, 2, none⟩ = some (.string t495) := (bC BK484.out 2).trans rfl; have hcz46_3 : w45.cell? ⟨gb484, 3, none⟩ = some (.string t498) := (bC BK484.out 3).trans rfl; have hcz46_4 : w45.cell? ⟨gb484, 4, none⟩ = some (.bool ((rd l0 (ji31)) == 1)) := (bC BK484.out 4).trans rfl; have hfz46_0 := bF BK484.out 0; have hfz46_1 := bF BK484.out 1; have hfz46_2 := bF BK484.out 2; have hfz46_3 := bF BK484.out 3; have hfz46_4 := bF BK484.out 4; have hcz47_0 : w45.cell? ⟨gb483, 0, none⟩ = some (.int .i64 0) := (bC BK483.out 0).trans rfl; have hcz47_1 : w45.cell? ⟨gb483, 1, none⟩ = some (.int .i64 0) := (bC BK483.out 1).trans rfl; have hcz47_2 : w45.cell? ⟨gb483, 2, none⟩ = some (.string (⟨#[]⟩ : ByteArray)) := (bC BK483.out 2).trans rfl; have hcz47_3 : w45.cell? ⟨gb483, 3, none⟩ = some (.string (⟨#[]⟩ : ByteArray)) := (bC BK483.out 3).trans rfl; have hcz47_4 : w45.cell? ⟨gb483, 4, none⟩ = some (.bool false) := (bC BK483.out 4).trans rfl; have hfz47_0 := bF BK483.out 0; have hfz47_1 := bF BK483.out 1; have hfz47_2 := bF BK483.out 2; have hfz47_3 := bF BK483.out 3; have hfz47_4 := bF BK483.out 4))
                                refine bodyPost_ret (results_ctt rfl _ _ gb483 34 #[.int .i64 (wrap64 (t485)), .int .i64 t492, .string t495, .string t498, .bool ((rd l0 (ji31)) == 1)] (0, 0) _ rfl (by (with_reducible repeat (first | refine bN ?_ _ | refine bD ?_ | refine bA ?_ _)); refine bP (cs := #[.int .i64 (wrap64 (t485)), .int .i64 t492, .string t495, .string t498, .bool false]) ?_ 4 _ rfl; (with_reducible repeat (first | refine bN ?_ _ | refine bD ?_ | refine bA ?_ _)); refine bP (cs := #[.int .i64 (wrap64 (t485)), .int .i64 t492, .string t495, .string (⟨#[]⟩ : ByteArray), .bool false]) ?_ 3 _ rfl; (with_reducible repeat (first | refine bN ?_ _ | refine bD ?_ | refine bA ?_ _)); refine bP (cs := #[.int .i64 (wrap64 (t485)), .int .i64 t492, .string (⟨#[]⟩ : ByteArray), .string (⟨#[]⟩ : ByteArray), .bool false]) ?_ 2 _ rfl; (with_reducible repeat (first | refine bN ?_ _ | refine bD ?_ | refine bA ?_ _)); refine bP (cs := #[.int .i64 (wrap64 (t485)), .int .i64 0, .string (⟨#[]⟩ : ByteArray), .string (⟨#[]⟩ : ByteArray), .bool false]) ?_ 1 _ rfl; (with_reducible repeat (first | refine bN ?_ _ | refine bD ?_ | refine bA ?_ _)); refine bP (cs := #[.int .i64 0, .int .i64 0, .string (⟨#[]⟩ : ByteArray), .string (⟨#[]⟩ : ByteArray), .bool false]) ?_ 0 _ rfl; (with_reducible repeat (first | refine bN ?_ _ | refine bD ?_ | refine bA ?_ _)); exact BK483.out) Try.underlying34 rfl (by kernel_rfl)) rfl ?_
                                exact ⟨by first | rfl | (simp [eN, eS] <;> rfl) | (simp only [← hji31]; first | rfl | (simp [eN, eS] <;> rfl)) | (simp [*, eN, eS] <;> rfl) | (simp [eN, eS]; generalize ByteArray.toList _ = l_; cases l_ <;> rfl), by repeat (first | (with_reducible first | exact HB.out | apply vA | apply vN | apply vD | refine vS ?_ GE483.out | refine vS ?_ GE484.out) | exact HB.out)⟩
                              · replace c42 := Bool.eq_false_iff.mpr c42
                                subst c42
                                have H1 : (some (0, 0, (⟨#[]⟩ : ByteArray), (⟨#[]⟩ : ByteArray), false, 0, 2)) = some (r1, r2, r3, r4, r5, r6, r7) := by rw [if_neg (show ¬ (false = true) by decide)] at H; exact H
                                clear H
                                have H := H1
                                clear H1
                                simp only [Option.some.injEq, Prod.mk.injEq] at H
                                obtain ⟨rfl, rfl, rfl, rfl, rfl, rfl, rfl⟩ := H
                                have p493 : 0 ≤ ((ji31) : Int) := of_decide_eq_true (by first | (with_reducible assumption) | assumption)
                                have q493 : (ji31) < (l0.length : Int) := of_decide_eq_true (by first | (with_reducible assumption) | assumption)
                                obtain ⟨ad493, e493, hx493_0⟩ := Kd.at_int HR0.out (ji31) p493 q493
                                cases e493
                                replace hx493_0 := (HB.out.cell (World.block_lt_of_cell? w _ hx493_0)).trans hx493_0
                                replace p493 := eq_true p493
                                replace q493 := eq_true q493
                                have p494 : 0 ≤ ((ji31) : Int) := of_decide_eq_true (by first | (with_reducible assumption) | assumption)
                                have q494 : (ji31) < (l0.length : Int) := of_decide_eq_true (by first | (with_reducible assumption) | assumption)
                                obtain ⟨ad494, e494, hx494_0⟩ := Kd.at_int HR0.out (ji31) p494 q494
                                obtain rfl : ad493 = ad494 := (by injection e494)
                                replace hx494_0 := (HB.out.cell (World.block_lt_of_cell? w _ hx494_0)).trans hx494_0
                                replace p494 := eq_true p494
                                replace q494 := eq_true q494
                                have hnb48 := NB484_483.out
                                have hnc48 := NB483_484.out
                                have hcz49_0 : wc.cell? ⟨gb484, 0, none⟩ = some (.int .i64 (wrap64 (t485))) := (bC BK484.out 0).trans rfl
                                have hcz49_1 : wc.cell? ⟨gb484, 1, none⟩ = some (.int .i64 t492) := (bC BK484.out 1).trans rfl
                                have hcz49_2 : wc.cell? ⟨gb484, 2, none⟩ = some (.string (⟨#[]⟩ : ByteArray)) := (bC BK484.out 2).trans rfl
                                have hcz49_3 : wc.cell? ⟨gb484, 3, none⟩ = some (.string (⟨#[]⟩ : ByteArray)) := (bC BK484.out 3).trans rfl
                                have hcz49_4 : wc.cell? ⟨gb484, 4, none⟩ = some (.bool false) := (bC BK484.out 4).trans rfl
                                have hfz49_0 := bF BK484.out 0
                                have hfz49_1 := bF BK484.out 1
                                have hfz49_2 := bF BK484.out 2
                                have hfz49_3 := bF BK484.out 3
                                have hfz49_4 := bF BK484.out 4
                                go_wp2_with (first | ((with_reducible refine gate_callee (f := 66) rfl ?_); refine goesL_ (some 76) rfl rfl Try.func66 (by kernel_rfl) rfl #[.slice (some ad493) l0.length c0, .int .i64 (wrap64 ((ji31) + 1)), .int .i64 200] rfl (by (try simp only [List.map_toArray, List.map_cons, List.map_nil]); first | done | (simp only [hji31]; rfl) | rfl | (simp only [List.length_drop, List.length_take]; rfl)) ?_; (with_reducible refine (cooperageref1_part.calls kj13 _ _ l0 (wrap64 ((ji31) + 1)) 200 t495 t496 t497 _ ?side1 ?side2 A37.out).mono ?_); (case side1 => exact Kd.C_below HR0.out (by repeat (first | (with_reducible first | exact HB.out | apply vA | apply vN | apply vD | refine vS ?_ GE483.out | refine vS ?_ GE484.out) | exact HB.out))); (case side2 => exact HC0.out); rintro e w' ⟨rfl, ⟨nd, rfl⟩⟩; refine ⟨_, rfl, ?_⟩) | ((with_reducible refine gate_callee (f := 66) rfl ?_); refine goesL_ (some 88) rfl rfl Try.func66 (by kernel_rfl) rfl #[.slice (some ad493) l0.length c0, .int .i64 t496, .int .i64 2000] rfl (by (try simp only [List.map_toArray, List.map_cons, List.map_nil]); first | done | rfl | (simp only [List.length_drop, List.length_take]; rfl)) ?_; (with_reducible refine (cooperageref1_part.calls kj13 _ _ l0 t496 2000 t498 t499 t500 _ ?side1 ?side2 A39.out).mono ?_); (case side1 => exact Kd.C_below HR0.out (by repeat (first | (with_reducible first | exact HB.out | apply vA | apply vN | apply vD | refine vS ?_ GE483.out | refine vS ?_ GE484.out) | exact HB.out))); (case side2 => exact HC0.out); rintro e w' ⟨rfl, ⟨nd, rfl⟩⟩; refine ⟨_, rfl, ?_⟩) | ((with_reducible refine gate_callee (f := 16) rfl ?_); refine goesL_ (some 98) rfl rfl Try.func16 (by kernel_rfl) rfl #[.agg #[.int .i64 (wrap64 (t485)), .int .i64 t492, .string t495, .string t498, .bool ((rd l0 (ji31)) == 1)]] rfl (by (try simp only [List.map_toArray, List.map_cons, List.map_nil]); first | done | (simp only [hji31]; rfl) | rfl | (simp only [List.length_drop, List.length_take]; rfl)) ?_; (with_reducible refine (cooperageref1_Right.calls (wrap64 (t485)) t492 t495 t498 ((rd l0 (ji31)) == 1) false _ A41.out).mono ?_); rintro e w50 ⟨rfl, hb⟩; refine ⟨_, rfl, ?_⟩; have n0_ := Aside0.mk (bB (g := gb483) (o := .cells #[.int .i64 0, .int .i64 0, .string (⟨#[]⟩ : ByteArray), .string (⟨#[]⟩ : ByteArray), .bool false] 34 (0, 0)) (by (with_reducible repeat (first | refine bN ?_ _ | refine bD ?_ | refine bA ?_ _)); refine bR ?_ NB483_484.out _; (with_reducible repeat (first | refine bN ?_ _ | refine bD ?_ | refine bA ?_ _)); refine bR ?_ NB483_484.out _; (with_reducible repeat (first | refine bN ?_ _ | refine bD ?_ | refine bA ?_ _)); refine bR ?_ NB483_484.out _; (with_reducible repeat (first | refine bN ?_ _ | refine bD ?_ | refine bA ?_ _)); exact BK483.out) hb); have n1_ := Aside0.mk (bB (g := gb484) (o := .cells #[.int .i64 (wrap64 (t485)), .int .i64 t492, .string t495, .string t498, .bool ((rd l0 (ji31)) == 1)] 34 (0, 0)) (by (with_reducible repeat (first | refine bN ?_ _ | refine bD ?_ | refine bA ?_ _)); refine bP (cs := #[.int .i64 (wrap64 (t485)), .int .i64 t492, .string t495, .string (⟨#[]⟩ : ByteArray), .bool ((rd l0 (ji31)) == 1)]) ?_ 3 _ rfl; (with_reducible repeat (first | refine bN ?_ _ | refine bD ?_ | refine bA ?_ _)); refine bP (cs := #[.int .i64 (wrap64 (t485)), .int .i64 t492, .string (⟨#[]⟩ : ByteArray), .string (⟨#[]⟩ : ByteArray), .bool ((rd l0 (ji31)) == 1)]) ?_ 2 _ rfl; (with_reducible repeat (first | refine bN ?_ _ | refine bD ?_ | refine bA ?_ _)); refine bP (cs := #[.int .i64 (wrap64 (t485)), .int .i64 t492, .string (⟨#[]⟩ : ByteArray), .string (⟨#[]⟩ : ByteArray), .bool false]) ?_ 4 _ rfl; (with_reducible repeat (first | refine bN ?_ _ | refine bD ?_ | refine bA ?_ _)); exact BK484.out) hb); have n2_ := Aside0.mk (vT (by repeat (first | (with_reducible first | exact HB.out | apply vA | apply vN | apply vD | refine vS ?_ GE483.out | refine vS ?_ GE484.out) | exact HB.out)) hb); clear BK483; clear BK484; clear HB; have BK483 := n0_; have BK484 := n1_; have HB := n2_; clear n0_ n1_ n2_; (try clear hb); (try clear hb2); (try clear hk); (try clear hi); have hcz51_0 : w50.cell? ⟨gb483, 0, none⟩ = some (.int .i64 0) := (bC BK483.out 0).trans rfl; have hcz51_1 : w50.cell? ⟨gb483, 1, none⟩ = some (.int .i64 0) := (bC BK483.out 1).trans rfl; have hcz51_2 : w50.cell? ⟨gb483, 2, none⟩ = some (.string (⟨#[]⟩ : ByteArray)) := (bC BK483.out 2).trans rfl; have hcz51_3 : w50.cell? ⟨gb483, 3, none⟩ = some (.string (⟨#[]⟩ : ByteArray)) := (bC BK483.out 3).trans rfl; have hcz51_4 : w50.cell? ⟨gb483, 4, none⟩ = some (.bool false) := (bC BK483.out 4).trans rfl; have hfz51_0 := bF BK483.out 0; have hfz51_1 := bF BK483.out 1; have hfz51_2 := bF BK483.out 2; have hfz51_3 := bF BK483.out 3; have hfz51_4 := bF BK483.out 4))
                                refine bodyPost_ret (results_ctt rfl _ _ gb483 34 #[.int .i64 0, .int .i64 0, .string (⟨#[]⟩ : ByteArray), .string (⟨#[]⟩ : ByteArray), .bool false] (0, 0) _ rfl (by (with_reducible repeat (first | refine bN ?_ _ | refine bD ?_ | refine bA ?_ _)); refine bP (cs := #[.int .i64 0, .int .i64 0, .string (⟨#[]⟩ : ByteArray), .string (⟨#[]⟩ : ByteArray), .bool false]) ?_ 4 _ rfl; (with_reducible repeat (first | refine bN ?_ _ | refine bD ?_ | refine bA ?_ _)); refine bP (cs := #[.int .i64 0, .int .i64 0, .string (⟨#[]⟩ : ByteArray), .string (⟨#[]⟩ : ByteArray), .bool false]) ?_ 3 _ rfl; (with_reducible repeat (first | refine bN ?_ _ | refine bD ?_ | refine bA ?_ _)); refine bP (cs := #[.int .i64 0, .int .i64 0, .string (⟨#[]⟩ : ByteArray), .string (⟨#[]⟩ : ByteArray), .bool false]) ?_ 2 _ rfl; (with_reducible repeat (first | refine bN ?_ _ | refine bD ?_ | refine bA ?_ _)); refine bP (cs := #[.int .i64 0, .int .i64 0, .string (⟨#[]⟩ : ByteArray), .string (⟨#[]⟩ : ByteArray), .bool false]) ?_ 1 _ rfl; (with_reducible repeat (first | refine bN ?_ _ | refine bD ?_ | refine bA ?_ _)); refine bP (cs := #[.int .i64 0, .int .i64 0, .string (⟨#[]⟩ : ByteArray), .string (⟨#[]⟩ : ByteArray), .bool false]) ?_ 0 _ rfl; (with_reducible repeat (first | refine bN ?_ _ | refine bD ?_ | refine bA ?_ _)); exact BK483.out) Try.underlying34 rfl (by kernel_rfl)) rfl ?_
                                exact ⟨by first | rfl | (simp [eN, eS] <;> rfl) | (simp only [← hji31]; first | rfl | (simp [eN, eS] <;> rfl)) | (simp [*, eN, eS] <;> rfl) | (simp [eN, eS]; generalize ByteArray.toList _ = l_; cases l_ <;> rfl), by repeat (first | (with_reducible first | exact HB.out | apply vA | apply vN | apply vD | refine vS ?_ GE483.out | refine vS ?_ GE484.out) | exact HB.out)⟩
                            · rw [if_neg c40] at H
                              have c40b0 : (t500 == 0) = false := beq_eq_false_iff_ne.mpr c40
                              have c40b1 : (t500 != 0) = true := bne_iff_ne.mpr c40
                              simp only [Option.some.injEq, Prod.mk.injEq] at H
                              obtain ⟨rfl, rfl, rfl, rfl, rfl, rfl, rfl⟩ := H
                              have p493 : 0 ≤ ((ji31) : Int) := of_decide_eq_true (by first | (with_reducible assumption) | assumption)
                              have q493 : (ji31) < (l0.length : Int) := of_decide_eq_true (by first | (with_reducible assumption) | assumption)
                              obtain ⟨ad493, e493, hx493_0⟩ := Kd.at_int HR0.out (ji31) p493 q493
                              cases e493
                              replace hx493_0 := (HB.out.cell (World.block_lt_of_cell? w _ hx493_0)).trans hx493_0
                              replace p493 := eq_true p493
                              replace q493 := eq_true q493
                              have p494 : 0 ≤ ((ji31) : Int) := of_decide_eq_true (by first | (with_reducible assumption) | assumption)
                              have q494 : (ji31) < (l0.length : Int) := of_decide_eq_true (by first | (with_reducible assumption) | assumption)
                              obtain ⟨ad494, e494, hx494_0⟩ := Kd.at_int HR0.out (ji31) p494 q494
                              obtain rfl : ad493 = ad494 := (by injection e494)
                              replace hx494_0 := (HB.out.cell (World.block_lt_of_cell? w _ hx494_0)).trans hx494_0
                              replace p494 := eq_true p494
                              replace q494 := eq_true q494
                              have hnb52 := NB484_483.out
                              have hnc52 := NB483_484.out
                              have hcz53_0 : wc.cell? ⟨gb484, 0, none⟩ = some (.int .i64 (wrap64 (t485))) := (bC BK484.out 0).trans rfl
                              have hcz53_1 : wc.cell? ⟨gb484, 1, none⟩ = some (.int .i64 t492) := (bC BK484.out 1).trans rfl
                              have hcz53_2 : wc.cell? ⟨gb484, 2, none⟩ = some (.string (⟨#[]⟩ : ByteArray)) := (bC BK484.out 2).trans rfl
                              have hcz53_3 : wc.cell? ⟨gb484, 3, none⟩ = some (.string (⟨#[]⟩ : ByteArray)) := (bC BK484.out 3).trans rfl
                              have hcz53_4 : wc.cell? ⟨gb484, 4, none⟩ = some (.bool false) := (bC BK484.out 4).trans rfl
                              have hfz53_0 := bF BK484.out 0
                              have hfz53_1 := bF BK484.out 1
                              have hfz53_2 := bF BK484.out 2
                              have hfz53_3 := bF BK484.out 3
                              have hfz53_4 := bF BK484.out 4
                              go_wp2_with (first | ((with_reducible refine gate_callee (f := 66) rfl ?_); refine goesL_ (some 76) rfl rfl Try.func66 (by kernel_rfl) rfl #[.slice (some ad493) l0.length c0, .int .i64 (wrap64 ((ji31) + 1)), .int .i64 200] rfl (by (try simp only [List.map_toArray, List.map_cons, List.map_nil]); first | done | (simp only [hji31]; rfl) | rfl | (simp only [List.length_drop, List.length_take]; rfl)) ?_; (with_reducible refine (cooperageref1_part.calls kj13 _ _ l0 (wrap64 ((ji31) + 1)) 200 t495 t496 t497 _ ?side1 ?side2 A37.out).mono ?_); (case side1 => exact Kd.C_below HR0.out (by repeat (first | (with_reducible first | exact HB.out | apply vA | apply vN | apply vD | refine vS ?_ GE483.out | refine vS ?_ GE484.out) | exact HB.out))); (case side2 => exact HC0.out); rintro e w' ⟨rfl, ⟨nd, rfl⟩⟩; refine ⟨_, rfl, ?_⟩) | ((with_reducible refine gate_callee (f := 66) rfl ?_); refine goesL_ (some 88) rfl rfl Try.func66 (by kernel_rfl) rfl #[.slice (some ad493) l0.length c0, .int .i64 t496, .int .i64 2000] rfl (by (try simp only [List.map_toArray, List.map_cons, List.map_nil]); first | done | rfl | (simp only [List.length_drop, List.length_take]; rfl)) ?_; (with_reducible refine (cooperageref1_part.calls kj13 _ _ l0 t496 2000 t498 t499 t500 _ ?side1 ?side2 A39.out).mono ?_); (case side1 => exact Kd.C_below HR0.out (by repeat (first | (with_reducible first | exact HB.out | apply vA | apply vN | apply vD | refine vS ?_ GE483.out | refine vS ?_ GE484.out) | exact HB.out))); (case side2 => exact HC0.out); rintro e w' ⟨rfl, ⟨nd, rfl⟩⟩; refine ⟨_, rfl, ?_⟩; have hcz54_0 : wc.cell? ⟨gb483, 0, none⟩ = some (.int .i64 0) := (bC BK483.out 0).trans rfl; have hcz54_1 : wc.cell? ⟨gb483, 1, none⟩ = some (.int .i64 0) := (bC BK483.out 1).trans rfl; have hcz54_2 : wc.cell? ⟨gb483, 2, none⟩ = some (.string (⟨#[]⟩ : ByteArray)) := (bC BK483.out 2).trans rfl; have hcz54_3 : wc.cell? ⟨gb483, 3, none⟩ = some (.string (⟨#[]⟩ : ByteArray)) := (bC BK483.out 3).trans rfl; have hcz54_4 : wc.cell? ⟨gb483, 4, none⟩ = some (.bool false) := (bC BK483.out 4).trans rfl; have hfz54_0 := bF BK483.out 0; have hfz54_1 := bF BK483.out 1; have hfz54_2 := bF BK483.out 2; have hfz54_3 := bF BK483.out 3; have hfz54_4 := bF BK483.out 4))
                              refine bodyPost_ret (results_ctt rfl _ _ gb483 34 #[.int .i64 0, .int .i64 0, .string (⟨#[]⟩ : ByteArray), .string (⟨#[]⟩ : ByteArray), .bool false] (0, 0) _ rfl (by (with_reducible repeat (first | refine bN ?_ _ | refine bD ?_ | refine bA ?_ _)); refine bP (cs := #[.int .i64 0, .int .i64 0, .string (⟨#[]⟩ : ByteArray), .string (⟨#[]⟩ : ByteArray), .bool false]) ?_ 4 _ rfl; (with_reducible repeat (first | refine bN ?_ _ | refine bD ?_ | refine bA ?_ _)); refine bP (cs := #[.int .i64 0, .int .i64 0, .string (⟨#[]⟩ : ByteArray), .string (⟨#[]⟩ : ByteArray), .bool false]) ?_ 3 _ rfl; (with_reducible repeat (first | refine bN ?_ _ | refine bD ?_ | refine bA ?_ _)); refine bP (cs := #[.int .i64 0, .int .i64 0, .string (⟨#[]⟩ : ByteArray), .string (⟨#[]⟩ : ByteArray), .bool false]) ?_ 2 _ rfl; (with_reducible repeat (first | refine bN ?_ _ | refine bD ?_ | refine bA ?_ _)); refine bP (cs := #[.int .i64 0, .int .i64 0, .string (⟨#[]⟩ : ByteArray), .string (⟨#[]⟩ : ByteArray), .bool false]) ?_ 1 _ rfl; (with_reducible repeat (first | refine bN ?_ _ | refine bD ?_ | refine bA ?_ _)); refine bP (cs := #[.int .i64 0, .int .i64 0, .string (⟨#[]⟩ : ByteArray), .string (⟨#[]⟩ : ByteArray), .bool false]) ?_ 0 _ rfl; (with_reducible repeat (first | refine bN ?_ _ | refine bD ?_ | refine bA ?_ _)); refine bR ?_ NB483_484.out _; (with_reducible repeat (first | refine bN ?_ _ | refine bD ?_ | refine bA ?_ _)); refine bR ?_ NB483_484.out _; (with_reducible repeat (first | refine bN ?_ _ | refine bD ?_ | refine bA ?_ _)); refine bR ?_ NB483_484.out _; (with_reducible repeat (first | refine bN ?_ _ | refine bD ?_ | refine bA ?_ _)); exact BK483.out) Try.underlying34 rfl (by kernel_rfl)) rfl ?_
                              exact ⟨by first | rfl | (simp [eN, eS] <;> rfl) | (simp only [← hji31]; first | rfl | (simp [eN, eS] <;> rfl)) | (simp [*, eN, eS] <;> rfl) | (simp [eN, eS]; generalize ByteArray.toList _ = l_; cases l_ <;> rfl), by repeat (first | (with_reducible first | exact HB.out | apply vA | apply vN | apply vD | refine vS ?_ GE483.out | refine vS ?_ GE484.out) | exact HB.out)⟩
                          · rw [if_neg c38] at H
                            have c38b0 : (t497 == 0) = false := beq_eq_false_iff_ne.mpr c38
                            have c38b1 : (t497 != 0) = true := bne_iff_ne.mpr c38
                            simp only [Option.some.injEq, Prod.mk.injEq] at H
                            obtain ⟨rfl, rfl, rfl, rfl, rfl, rfl, rfl⟩ := H
                            have p493 : 0 ≤ ((ji31) : Int) := of_decide_eq_true (by first | (with_reducible assumption) | assumption)
                            have q493 : (ji31) < (l0.length : Int) := of_decide_eq_true (by first | (with_reducible assumption) | assumption)
                            obtain ⟨ad493, e493, hx493_0⟩ := Kd.at_int HR0.out (ji31) p493 q493
                            cases e493
                            replace hx493_0 := (HB.out.cell (World.block_lt_of_cell? w _ hx493_0)).trans hx493_0
                            replace p493 := eq_true p493
                            replace q493 := eq_true q493
                            have p494 : 0 ≤ ((ji31) : Int) := of_decide_eq_true (by first | (with_reducible assumption) | assumption)
                            have q494 : (ji31) < (l0.length : Int) := of_decide_eq_true (by first | (with_reducible assumption) | assumption)
                            obtain ⟨ad494, e494, hx494_0⟩ := Kd.at_int HR0.out (ji31) p494 q494
                            obtain rfl : ad493 = ad494 := (by injection e494)
                            replace hx494_0 := (HB.out.cell (World.block_lt_of_cell? w _ hx494_0)).trans hx494_0
                            replace p494 := eq_true p494
                            replace q494 := eq_true q494
                            have hnb55 := NB484_483.out
                            have hnc55 := NB483_484.out
                            have hcz56_0 : wc.cell? ⟨gb484, 0, none⟩ = some (.int .i64 (wrap64 (t485))) := (bC BK484.out 0).trans rfl
                            have hcz56_1 : wc.cell? ⟨gb484, 1, none⟩ = some (.int .i64 t492) := (bC BK484.out 1).trans rfl
                            have hcz56_2 : wc.cell? ⟨gb484, 2, none⟩ = some (.string (⟨#[]⟩ : ByteArray)) := (bC BK484.out 2).trans rfl
                            have hcz56_3 : wc.cell? ⟨gb484, 3, none⟩ = some (.string (⟨#[]⟩ : ByteArray)) := (bC BK484.out 3).trans rfl
                            have hcz56_4 : wc.cell? ⟨gb484, 4, none⟩ = some (.bool false) := (bC BK484.out 4).trans rfl
                            have hfz56_0 := bF BK484.out 0
                            have hfz56_1 := bF BK484.out 1
                            have hfz56_2 := bF BK484.out 2
                            have hfz56_3 := bF BK484.out 3
                            have hfz56_4 := bF BK484.out 4
                            go_wp2_with (first | ((with_reducible refine gate_callee (f := 66) rfl ?_); refine goesL_ (some 76) rfl rfl Try.func66 (by kernel_rfl) rfl #[.slice (some ad493) l0.length c0, .int .i64 (wrap64 ((ji31) + 1)), .int .i64 200] rfl (by (try simp only [List.map_toArray, List.map_cons, List.map_nil]); first | done | (simp only [hji31]; rfl) | rfl | (simp only [List.length_drop, List.length_take]; rfl)) ?_; (with_reducible refine (cooperageref1_part.calls kj13 _ _ l0 (wrap64 ((ji31) + 1)) 200 t495 t496 t497 _ ?side1 ?side2 A37.out).mono ?_); (case side1 => exact Kd.C_below HR0.out (by repeat (first | (with_reducible first | exact HB.out | apply vA | apply vN | apply vD | refine vS ?_ GE483.out | refine vS ?_ GE484.out) | exact HB.out))); (case side2 => exact HC0.out); rintro e w' ⟨rfl, ⟨nd, rfl⟩⟩; refine ⟨_, rfl, ?_⟩; have hcz57_0 : wc.cell? ⟨gb483, 0, none⟩ = some (.int .i64 0) := (bC BK483.out 0).trans rfl; have hcz57_1 : wc.cell? ⟨gb483, 1, none⟩ = some (.int .i64 0) := (bC BK483.out 1).trans rfl; have hcz57_2 : wc.cell? ⟨gb483, 2, none⟩ = some (.string (⟨#[]⟩ : ByteArray)) := (bC BK483.out 2).trans rfl; have hcz57_3 : wc.cell? ⟨gb483, 3, none⟩ = some (.string (⟨#[]⟩ : ByteArray)) := (bC BK483.out 3).trans rfl; have hcz57_4 : wc.cell? ⟨gb483, 4, none⟩ = some (.bool false) := (bC BK483.out 4).trans rfl; have hfz57_0 := bF BK483.out 0; have hfz57_1 := bF BK483.out 1; have hfz57_2 := bF BK483.out 2; have hfz57_3 := bF BK483.out 3; have hfz57_4 := bF BK483.out 4))
                            refine bodyPost_ret (results_ctt rfl _ _ gb483 34 #[.int .i64 0, .int .i64 0, .string (⟨#[]⟩ : ByteArray), .string (⟨#[]⟩ : ByteArray), .bool false] (0, 0) _ rfl (by (with_reducible repeat (first | refine bN ?_ _ | refine bD ?_ | refine bA ?_ _)); refine bP (cs := #[.int .i64 0, .int .i64 0, .string (⟨#[]⟩ : ByteArray), .string (⟨#[]⟩ : ByteArray), .bool false]) ?_ 4 _ rfl; (with_reducible repeat (first | refine bN ?_ _ | refine bD ?_ | refine bA ?_ _)); refine bP (cs := #[.int .i64 0, .int .i64 0, .string (⟨#[]⟩ : ByteArray), .string (⟨#[]⟩ : ByteArray), .bool false]) ?_ 3 _ rfl; (with_reducible repeat (first | refine bN ?_ _ | refine bD ?_ | refine bA ?_ _)); refine bP (cs := #[.int .i64 0, .int .i64 0, .string (⟨#[]⟩ : ByteArray), .string (⟨#[]⟩ : ByteArray), .bool false]) ?_ 2 _ rfl; (with_reducible repeat (first | refine bN ?_ _ | refine bD ?_ | refine bA ?_ _)); refine bP (cs := #[.int .i64 0, .int .i64 0, .string (⟨#[]⟩ : ByteArray), .string (⟨#[]⟩ : ByteArray), .bool false]) ?_ 1 _ rfl; (with_reducible repeat (first | refine bN ?_ _ | refine bD ?_ | refine bA ?_ _)); refine bP (cs := #[.int .i64 0, .int .i64 0, .string (⟨#[]⟩ : ByteArray), .string (⟨#[]⟩ : ByteArray), .bool false]) ?_ 0 _ rfl; (with_reducible repeat (first | refine bN ?_ _ | refine bD ?_ | refine bA ?_ _)); refine bR ?_ NB483_484.out _; (with_reducible repeat (first | refine bN ?_ _ | refine bD ?_ | refine bA ?_ _)); refine bR ?_ NB483_484.out _; (with_reducible repeat (first | refine bN ?_ _ | refine bD ?_ | refine bA ?_ _)); exact BK483.out) Try.underlying34 rfl (by kernel_rfl)) rfl ?_
                            exact ⟨by first | rfl | (simp [eN, eS] <;> rfl) | (simp only [← hji31]; first | rfl | (simp [eN, eS] <;> rfl)) | (simp [*, eN, eS] <;> rfl) | (simp [eN, eS]; generalize ByteArray.toList _ = l_; cases l_ <;> rfl), by repeat (first | (with_reducible first | exact HB.out | apply vA | apply vN | apply vD | refine vS ?_ GE483.out | refine vS ?_ GE484.out) | exact HB.out)⟩
                      · rw [if_neg c33] at H
                        exact absurd H (by simp)
                    · rw [if_neg c32] at H
                      exact absurd H (by simp)
          · rw [if_neg c12] at H
            have c12b0 : (t491 == 0) = false := beq_eq_false_iff_ne.mpr c12
            have c12b1 : (t491 != 0) = true := bne_iff_ne.mpr c12
            simp only [Option.some.injEq, Prod.mk.injEq] at H
            obtain ⟨rfl, rfl, rfl, rfl, rfl, rfl, rfl⟩ := H
            go_enter Try.func42, Try.ntmps42
            go_wp2_with (first | ((with_reducible refine gate_dst (N := 2) rfl ?_); refine box_event ?hg (N := 2) ?hd (cs := #[.int .i64 0, .int .i64 0, .string (⟨#[]⟩ : ByteArray), .string (⟨#[]⟩ : ByteArray), .bool false]) (t := 34) ?hr ?_; (case hd => rfl); (case hg => rfl); (case hr => first | (go_simp; done) | (go_simp; rfl)); intro gb483 hg w58 hbox hb; have n0_ := Aside0.mk (vT (by repeat (first | (with_reducible first | exact HB.out | apply vA | apply vN | apply vD) | exact HB.out)) hb); have n1_ := Aside0.mk (hbox); have n2_ := Aside0.mk ((by rw [hg]; exact (vZ (by repeat (first | (with_reducible first | exact HB.out | apply vA | apply vN | apply vD) | exact HB.out))) : w.heap.size ≤ gb483)); have n3_ := Aside0.mk ((by rw [hg]; exact (vZ (by repeat (first | (with_reducible first | exact HB.out | apply vA | apply vN | apply vD) | exact HB.out))) : w.heap.size ≤ gb483)); clear HB; have HB := n0_; have BK483 := n1_; have GW483 := n2_; have GE483 := n3_; clear n0_ n1_ n2_ n3_; clear hb hbox hg) | ((with_reducible refine gate_dst (N := 5) rfl ?_); refine box_event ?hg (N := 5) ?hd (cs := #[.int .i64 0, .int .i64 0, .string (⟨#[]⟩ : ByteArray), .string (⟨#[]⟩ : ByteArray), .bool false]) (t := 34) ?hr ?_; (case hd => rfl); (case hg => rfl); (case hr => first | (go_simp; done) | (go_simp; rfl)); intro gb484 hg w59 hbox hb; have n0_ := Aside0.mk (bB (g := gb483) (o := .cells #[.int .i64 0, .int .i64 0, .string (⟨#[]⟩ : ByteArray), .string (⟨#[]⟩ : ByteArray), .bool false] 34 (0, 0)) (by (with_reducible repeat (first | refine bN ?_ _ | refine bD ?_ | refine bA ?_ _)); exact BK483.out) hb); have n1_ := Aside0.mk (vT (by repeat (first | (with_reducible first | exact HB.out | apply vA | apply vN | apply vD | refine vS ?_ GE483.out) | exact HB.out)) hb); have n2_ := Aside0.mk (hbox); have n3_ := Aside0.mk ((by rw [hg]; exact (vZ (by repeat (first | (with_reducible first | exact HB.out | apply vA | apply vN | apply vD | refine vS ?_ GE483.out) | exact HB.out))) : w.heap.size ≤ gb484)); have n4_ := Aside0.mk ((by rw [hg]; exact (vZ (by repeat (first | (with_reducible first | exact HB.out | apply vA | apply vN | apply vD | refine vS ?_ GE483.out) | exact HB.out))) : w.heap.size ≤ gb484)); have n5_ := Aside0.mk ((by rw [hg]; exact Nat.ne_of_lt (blk_lt (g := gb483) (o := .cells #[.int .i64 0, .int .i64 0, .string (⟨#[]⟩ : ByteArray), .string (⟨#[]⟩ : ByteArray), .bool false] 34 (0, 0)) (by (with_reducible repeat (first | refine bN ?_ _ | refine bD ?_ | refine bA ?_ _)); exact BK483.out)) : gb483 ≠ gb484)); have n6_ := Aside0.mk ((by rw [hg]; exact Nat.ne_of_gt (blk_lt (g := gb483) (o := .cells #[.int .i64 0, .int .i64 0, .string (⟨#[]⟩ : ByteArray), .string (⟨#[]⟩ : ByteArray), .bool false] 34 (0, 0)) (by (with_reducible repeat (first | refine bN ?_ _ | refine bD ?_ | refine bA ?_ _)); exact BK483.out)) : gb484 ≠ gb483)); clear BK483; clear HB; have BK483 := n0_; have HB := n1_; have BK484 := n2_; have GW484 := n3_; have GE484 := n4_; have NB483_484 := n5_; have NB484_483 := n6_; clear n0_ n1_ n2_ n3_ n4_ n5_ n6_; clear hb hbox hg) | ((with_reducible refine gate_callee (f := 64) rfl ?_); refine goesL_ (some 13) rfl rfl Try.func64 (by kernel_rfl) rfl #[.slice A0 l0.length c0] rfl (by (try simp only [List.map_toArray, List.map_cons, List.map_nil]); first | done | rfl | (simp only [List.length_drop, List.length_take]; rfl)) ?_; (with_reducible refine (cooperageref1_Get.calls k _ _ l0 t485 t486 t487 _ ?side1 ?side2 A2.out).mono ?_); (case side1 => repeat (first | exact (Kd.C_below HR0.out HB.out) | (with_reducible refine Kd.C_alloc ?_ _) | (with_reducible refine Kd.C_drewN ?_ _) | (with_reducible refine Kd.C_drew ?_))); (case side2 => exact HC0.out); rintro e w' ⟨rfl, ⟨nd, rfl⟩⟩; refine ⟨_, rfl, ?_⟩; (try (rw [drewN_self w59]; generalize hq_ : World.drewN w59 _ = w59; have n0_ : Aside0 (w59.heap[gb483]? = some (.cells #[.int .i64 0, .int .i64 0, .string (⟨#[]⟩ : ByteArray), .string (⟨#[]⟩ : ByteArray), .bool false] 34 (0, 0))) := ⟨by rw [← hq_]; exact (by (with_reducible repeat (first | refine bN ?_ _ | refine bD ?_ | refine bA ?_ _)); exact BK483.out)⟩; have n1_ : Aside0 (w59.heap[gb484]? = some (.cells #[.int .i64 0, .int .i64 0, .string (⟨#[]⟩ : ByteArray), .string (⟨#[]⟩ : ByteArray), .bool false] 34 (0, 0))) := ⟨by rw [← hq_]; exact (by (with_reducible repeat (first | refine bN ?_ _ | refine bD ?_ | refine bA ?_ _)); exact BK484.out)⟩; have n2_ : Aside0 (Below w.heap.size w w59) := ⟨by rw [← hq_]; exact (by repeat (first | (with_reducible first | exact HB.out | apply vA | apply vN | apply vD | refine vS ?_ GE483.out | refine vS ?_ GE484.out) | exact HB.out))⟩; clear BK483 BK484 HB hq_; have BK483 := n0_; have BK484 := n1_; have HB := n2_; clear n0_ n1_ n2_)); have hnb60 := NB484_483.out; have hnc60 := NB483_484.out; have hcz61_0 : w59.cell? ⟨gb484, 0, none⟩ = some (.int .i64 0) := (bC BK484.out 0).trans rfl; have hcz61_1 : w59.cell? ⟨gb484, 1, none⟩ = some (.int .i64 0) := (bC BK484.out 1).trans rfl; have hcz61_2 : w59.cell? ⟨gb484, 2, none⟩ = some (.string (⟨#[]⟩ : ByteArray)) := (bC BK484.out 2).trans rfl; have hcz61_3 : w59.cell? ⟨gb484, 3, none⟩ = some (.string (⟨#[]⟩ : ByteArray)) := (bC BK484.out 3).trans rfl; have hcz61_4 : w59.cell? ⟨gb484, 4, none⟩ = some (.bool false) := (bC BK484.out 4).trans rfl; have hfz61_0 := bF BK484.out 0; have hfz61_1 := bF BK484.out 1; have hfz61_2 := bF BK484.out 2; have hfz61_3 := bF BK484.out 3; have hfz61_4 := bF BK484.out 4; obtain ⟨i062, hi062, _, hsz62, _⟩ := info_parts info5; obtain ⟨A62, hcut62, hA62, hC62⟩ := print_drop_of (P := Try.prog) (Value.int .u8) 0 37 5 .i64 Try.underlying37 hi062 hsz62 A0 c0 l0 t486 (of_decide_eq_true (by first | (with_reducible assumption) | assumption)) (of_decide_eq_true (by first | (with_reducible assumption) | assumption)) HC0.out; have HR488 := Aside0.mk (Kd.C_of_reads (h1 := fun _ => rfl) (hA62 _ (Kd.reads_of_C HR0.out))); have HC488 := Aside0.mk hC62; clear hA62 hC62 hi062 hsz62) | ((with_reducible refine gate_callee (f := 64) rfl ?_); refine goesL_ (some 31) rfl rfl Try.func64 (by kernel_rfl) rfl #[.slice A62 (l0.drop (t486 : Int).toNat).length (c0 - t486.toNat)] rfl (by (try simp only [List.map_toArray, List.map_cons, List.map_nil]); first | done | (rw [show (l0.drop (t486 : Int).toNat).length = (l0.length - t486.toNat) from List.length_drop] <;> rfl) | rfl | (simp only [List.length_drop, List.length_take]; rfl)) ?_; (with_reducible refine (cooperageref1_Get.calls k _ _ (l0.drop (t486 : Int).toNat) t489 t490 t491 _ ?side1 ?side2 A11.out).mono ?_); (case side1 => exact Kd.C_below HR488.out (by repeat (first | (with_reducible first | exact HB.out | apply vA | apply vN | apply vD | refine vS ?_ GE483.out | refine vS ?_ GE484.out) | exact HB.out))); (case side2 => exact HC488.out); rintro e w' ⟨rfl, ⟨nd, rfl⟩⟩; refine ⟨_, rfl, ?_⟩; have hcz63_0 : w59.cell? ⟨gb483, 0, none⟩ = some (.int .i64 0) := (bC BK483.out 0).trans rfl; have hcz63_1 : w59.cell? ⟨gb483, 1, none⟩ = some (.int .i64 0) := (bC BK483.out 1).trans rfl; have hcz63_2 : w59.cell? ⟨gb483, 2, none⟩ = some (.string (⟨#[]⟩ : ByteArray)) := (bC BK483.out 2).trans rfl; have hcz63_3 : w59.cell? ⟨gb483, 3, none⟩ = some (.string (⟨#[]⟩ : ByteArray)) := (bC BK483.out 3).trans rfl; have hcz63_4 : w59.cell? ⟨gb483, 4, none⟩ = some (.bool false) := (bC BK483.out 4).trans rfl; have hfz63_0 := bF BK483.out 0; have hfz63_1 := bF BK483.out 1; have hfz63_2 := bF BK483.out 2; have hfz63_3 := bF BK483.out 3; have hfz63_4 := bF BK483.out 4))
            refine bodyPost_ret (results_ctt rfl _ _ gb483 34 #[.int .i64 0, .int .i64 0, .string (⟨#[]⟩ : ByteArray), .string (⟨#[]⟩ : ByteArray), .bool false] (0, 0) _ rfl (by (with_reducible repeat (first | refine bN ?_ _ | refine bD ?_ | refine bA ?_ _)); refine bP (cs := #[.int .i64 0, .int .i64 0, .string (⟨#[]⟩ : ByteArray), .string (⟨#[]⟩ : ByteArray), .bool false]) ?_ 4 _ rfl; (with_reducible repeat (first | refine bN ?_ _ | refine bD ?_ | refine bA ?_ _)); refine bP (cs := #[.int .i64 0, .int .i64 0, .string (⟨#[]⟩ : ByteArray), .string (⟨#[]⟩ : ByteArray), .bool false]) ?_ 3 _ rfl; (with_reducible repeat (first | refine bN ?_ _ | refine bD ?_ | refine bA ?_ _)); refine bP (cs := #[.int .i64 0, .int .i64 0, .string (⟨#[]⟩ : ByteArray), .string (⟨#[]⟩ : ByteArray), .bool false]) ?_ 2 _ rfl; (with_reducible repeat (first | refine bN ?_ _ | refine bD ?_ | refine bA ?_ _)); refine bP (cs := #[.int .i64 0, .int .i64 0, .string (⟨#[]⟩ : ByteArray), .string (⟨#[]⟩ : ByteArray), .bool false]) ?_ 1 _ rfl; (with_reducible repeat (first | refine bN ?_ _ | refine bD ?_ | refine bA ?_ _)); refine bP (cs := #[.int .i64 0, .int .i64 0, .string (⟨#[]⟩ : ByteArray), .string (⟨#[]⟩ : ByteArray), .bool false]) ?_ 0 _ rfl; (with_reducible repeat (first | refine bN ?_ _ | refine bD ?_ | refine bA ?_ _)); refine bR ?_ NB483_484.out _; (with_reducible repeat (first | refine bN ?_ _ | refine bD ?_ | refine bA ?_ _)); exact BK483.out) Try.underlying34 rfl (by kernel_rfl)) rfl ?_
            exact ⟨by first | rfl | (simp [*, eN, eS] <;> rfl) | (simp [eN, eS]; generalize ByteArray.toList _ = l_; cases l_ <;> rfl), by repeat (first | (with_reducible first | exact HB.out | apply vA | apply vN | apply vD | refine vS ?_ GE483.out | refine vS ?_ GE484.out) | exact HB.out)⟩
        · rw [if_neg c10] at H
          exact absurd H (by simp)
      · rw [if_neg c9] at H
        exact absurd H (by simp)
  · rw [if_neg c3] at H
    have c3b0 : (t487 == 0) = false := beq_eq_false_iff_ne.mpr c3
    have c3b1 : (t487 != 0) = true := bne_iff_ne.mpr c3
    simp only [Option.some.injEq, Prod.mk.injEq] at H
    obtain ⟨rfl, rfl, rfl, rfl, rfl, rfl, rfl⟩ := H
    go_enter Try.func42, Try.ntmps42
    go_wp2_with (first | ((with_reducible refine gate_dst (N := 2) rfl ?_); refine box_event ?hg (N := 2) ?hd (cs := #[.int .i64 0, .int .i64 0, .string (⟨#[]⟩ : ByteArray), .string (⟨#[]⟩ : ByteArray), .bool false]) (t := 34) ?hr ?_; (case hd => rfl); (case hg => rfl); (case hr => first | (go_simp; done) | (go_simp; rfl)); intro gb483 hg w64 hbox hb; have n0_ := Aside0.mk (vT (by repeat (first | (with_reducible first | exact HB.out | apply vA | apply vN | apply vD) | exact HB.out)) hb); have n1_ := Aside0.mk (hbox); have n2_ := Aside0.mk ((by rw [hg]; exact (vZ (by repeat (first | (with_reducible first | exact HB.out | apply vA | apply vN | apply vD) | exact HB.out))) : w.heap.size ≤ gb483)); have n3_ := Aside0.mk ((by rw [hg]; exact (vZ (by repeat (first | (with_reducible first | exact HB.out | apply vA | apply vN | apply vD) | exact HB.out))) : w.heap.size ≤ gb483)); clear HB; have HB := n0_; have BK483 := n1_; have GW483 := n2_; have GE483 := n3_; clear n0_ n1_ n2_ n3_; clear hb hbox hg) | ((with_reducible refine gate_dst (N := 5) rfl ?_); refine box_event ?hg (N := 5) ?hd (cs := #[.int .i64 0, .int .i64 0, .string (⟨#[]⟩ : ByteArray), .string (⟨#[]⟩ : ByteArray), .bool false]) (t := 34) ?hr ?_; (case hd => rfl); (case hg => rfl); (case hr => first | (go_simp; done) | (go_simp; rfl)); intro gb484 hg w65 hbox hb; have n0_ := Aside0.mk (bB (g := gb483) (o := .cells #[.int .i64 0, .int .i64 0, .string (⟨#[]⟩ : ByteArray), .string (⟨#[]⟩ : ByteArray), .bool false] 34 (0, 0)) (by (with_reducible repeat (first | refine bN ?_ _ | refine bD ?_ | refine bA ?_ _)); exact BK483.out) hb); have n1_ := Aside0.mk (vT (by repeat (first | (with_reducible first | exact HB.out | apply vA | apply vN | apply vD | refine vS ?_ GE483.out) | exact HB.out)) hb); have n2_ := Aside0.mk (hbox); have n3_ := Aside0.mk ((by rw [hg]; exact (vZ (by repeat (first | (with_reducible first | exact HB.out | apply vA | apply vN | apply vD | refine vS ?_ GE483.out) | exact HB.out))) : w.heap.size ≤ gb484)); have n4_ := Aside0.mk ((by rw [hg]; exact (vZ (by repeat (first | (with_reducible first | exact HB.out | apply vA | apply vN | apply vD | refine vS ?_ GE483.out) | exact HB.out))) : w.heap.size ≤ gb484)); have n5_ := Aside0.mk ((by rw [hg]; exact Nat.ne_of_lt (blk_lt (g := gb483) (o := .cells #[.int .i64 0, .int .i64 0, .string (⟨#[]⟩ : ByteArray), .string (⟨#[]⟩ : ByteArray), .bool false] 34 (0, 0)) (by (with_reducible repeat (first | refine bN ?_ _ | refine bD ?_ | refine bA ?_ _)); exact BK483.out)) : gb483 ≠ gb484)); have n6_ := Aside0.mk ((by rw [hg]; exact Nat.ne_of_gt (blk_lt (g := gb483) (o := .cells #[.int .i64 0, .int .i64 0, .string (⟨#[]⟩ : ByteArray), .string (⟨#[]⟩ : ByteArray), .bool false] 34 (0, 0)) (by (with_reducible repeat (first | refine bN ?_ _ | refine bD ?_ | refine bA ?_ _)); exact BK483.out)) : gb484 ≠ gb483)); clear BK483; clear HB; have BK483 := n0_; have HB := n1_; have BK484 := n2_; have GW484 := n3_; have GE484 := n4_; have NB483_484 := n5_; have NB484_483 := n6_; clear n0_ n1_ n2_ n3_ n4_ n5_ n6_; clear hb hbox hg) | ((with_reducible refine gate_callee (f := 64) rfl ?_); refine goesL_ (some 13) rfl rfl Try.func64 (by kernel_rfl) rfl #[.slice A0 l0.length c0] rfl (by (try simp only [List.map_toArray, List.map_cons, List.map_nil]); first | done | rfl | (simp only [List.length_drop, List.length_take]; rfl)) ?_; (with_reducible refine (cooperageref1_Get.calls k _ _ l0 t485 t486 t487 _ ?side1 ?side2 A2.out).mono ?_); (case side1 => repeat (first | exact (Kd.C_below HR0.out HB.out) | (with_reducible refine Kd.C_alloc ?_ _) | (with_reducible refine Kd.C_drewN ?_ _) | (with_reducible refine Kd.C_drew ?_))); (case side2 => exact HC0.out); rintro e w' ⟨rfl, ⟨nd, rfl⟩⟩; refine ⟨_, rfl, ?_⟩; (try (rw [drewN_self w65]; generalize hq_ : World.drewN w65 _ = w65; have n0_ : Aside0 (w65.heap[gb483]? = some (.cells #[.int .i64 0, .int .i64 0, .string (⟨#[]⟩ : ByteArray), .string (⟨#[]⟩ : ByteArray), .bool false] 34 (0, 0))) := ⟨by rw [← hq_]; exact (by (with_reducible repeat (first | refine bN ?_ _ | refine bD ?_ | refine bA ?_ _)); exact BK483.out)⟩; have n1_ : Aside0 (w65.heap[gb484]? = some (.cells #[.int .i64 0, .int .i64 0, .string (⟨#[]⟩ : ByteArray), .string (⟨#[]⟩ : ByteArray), .bool false] 34 (0, 0))) := ⟨by rw [← hq_]; exact (by (with_reducible repeat (first | refine bN ?_ _ | refine bD ?_ | refine bA ?_ _)); exact BK484.out)⟩; have n2_ : Aside0 (Below w.heap.size w w65) := ⟨by rw [← hq_]; exact (by repeat (first | (with_reducible first | exact HB.out | apply vA | apply vN | apply vD | refine vS ?_ GE483.out | refine vS ?_ GE484.out) | exact HB.out))⟩; clear BK483 BK484 HB hq_; have BK483 := n0_; have BK484 := n1_; have HB := n2_; clear n0_ n1_ n2_)); have hnb66 := NB483_484.out; have hnc66 := NB484_483.out; have hcz67_0 : w65.cell? ⟨gb483, 0, none⟩ = some (.int .i64 0) := (bC BK483.out 0).trans rfl; have hcz67_1 : w65.cell? ⟨gb483, 1, none⟩ = some (.int .i64 0) := (bC BK483.out 1).trans rfl; have hcz67_2 : w65.cell? ⟨gb483, 2, none⟩ = some (.string (⟨#[]⟩ : ByteArray)) := (bC BK483.out 2).trans rfl; have hcz67_3 : w65.cell? ⟨gb483, 3, none⟩ = some (.string (⟨#[]⟩ : ByteArray)) := (bC BK483.out 3).trans rfl; have hcz67_4 : w65.cell? ⟨gb483, 4, none⟩ = some (.bool false) := (bC BK483.out 4).trans rfl; have hfz67_0 := bF BK483.out 0; have hfz67_1 := bF BK483.out 1; have hfz67_2 := bF BK483.out 2; have hfz67_3 := bF BK483.out 3; have hfz67_4 := bF BK483.out 4))
    refine bodyPost_ret (results_ctt rfl _ _ gb483 34 #[.int .i64 0, .int .i64 0, .string (⟨#[]⟩ : ByteArray), .string (⟨#[]⟩ : ByteArray), .bool false] (0, 0) _ rfl (by (with_reducible repeat (first | refine bN ?_ _ | refine bD ?_ | refine bA ?_ _)); refine bP (cs := #[.int .i64 0, .int .i64 0, .string (⟨#[]⟩ : ByteArray), .string (⟨#[]⟩ : ByteArray), .bool false]) ?_ 4 _ rfl; (with_reducible repeat (first | refine bN ?_ _ | refine bD ?_ | refine bA ?_ _)); refine bP (cs := #[.int .i64 0, .int .i64 0, .string (⟨#[]⟩ : ByteArray), .string (⟨#[]⟩ : ByteArray), .bool false]) ?_ 3 _ rfl; (with_reducible repeat (first | refine bN ?_ _ | refine bD ?_ | refine bA ?_ _)); refine bP (cs := #[.int .i64 0, .int .i64 0, .string (⟨#[]⟩ : ByteArray), .string (⟨#[]⟩ : ByteArray), .bool false]) ?_ 2 _ rfl; (with_reducible repeat (first | refine bN ?_ _ | refine bD ?_ | refine bA ?_ _)); refine bP (cs := #[.int .i64 0, .int .i64 0, .string (⟨#[]⟩ : ByteArray), .string (⟨#[]⟩ : ByteArray), .bool false]) ?_ 1 _ rfl; (with_reducible repeat (first | refine bN ?_ _ | refine bD ?_ | refine bA ?_ _)); refine bP (cs := #[.int .i64 0, .int .i64 0, .string (⟨#[]⟩ : ByteArray), .string (⟨#[]⟩ : ByteArray), .bool false]) ?_ 0 _ rfl; (with_reducible repeat (first | refine bN ?_ _ | refine bD ?_ | refine bA ?_ _)); exact BK483.out) Try.underlying34 rfl (by kernel_rfl)) rfl ?_
    exact ⟨by first | rfl | (simp [*, eN, eS] <;> rfl) | (simp [eN, eS]; generalize ByteArray.toList _ = l_; cases l_ <;> rfl), by repeat (first | (with_reducible first | exact HB.out | apply vA | apply vN | apply vD | refine vS ?_ GE483.out | refine vS ?_ GE484.out) | exact HB.out)⟩

end Go.Proofs.Ytphnolgneojdhaa.Z

-- printed by a program of this session (a changed copy of the kit's printer; squeeze.py)
import Derived.Test.YtphnolgneojdhaaVx0
namespace Go.Proofs.Ytphnolgneojdhaa.V
open Go.RowKit Go.Proofs.YtphnolgneojdhaaW.PrintWords Go.Proofs.YtphnolgneojdhaaW.PrintLast Go.Proofs.YtphnolgneojdhaaW.PrintMore
attribute [local go_sem] max2_int min2_int max_two min_two max_three min_three max_four min_four   -- for this text's walks alone
set_option linter.unusedVariables false
set_option linter.unusedSimpArgs false
/-! ### cooperageref1_Right: function 16 -/
def cooperageref1_Right.f (a0_0 : Int) (a0_1 : Int) (a0_2 : ByteArray) (a0_3 : ByteArray) (a0_4 : Bool) : Option (Bool) := if a0_0 ≥ 0 then (if a0_0 ≤ 1125899906842624 then (if a0_1 ≥ (-1099511627776) then (if a0_1 ≤ 1099511627776 then (if (a0_2.size : Int) ≥ 1 then (if (a0_2.size : Int) ≤ 200 then (if (a0_3.size : Int) ≤ 2000 then (if a0_4 = true then (some (a0_3.toList == ([] : List UInt8))) else (some true)) else (some false)) else (some false)) else (some false)) else (some false)) else (some false)) else (some false)) else (some false)
set_option maxHeartbeats 8000000 in
set_option maxRecDepth 100000 in
theorem cooperageref1_Right.calls (a0_0 : Int) (a0_1 : Int) (a0_2 : ByteArray) (a0_3 : ByteArray) (a0_4 : Bool) (r : Bool) (w : World) (h : cooperageref1_Right.f a0_0 a0_1 a0_2 a0_3 a0_4 = some r) :
    Calls Try.prog 16 #[.agg #[.int .i64 a0_0, .int .i64 a0_1, .string a0_2, .string a0_3, .bool a0_4]] w fun e w' => e = .returned (.bool r) ∧ Below w.heap.size w w' := by
  have hu34 := Try.underlying34
  have HB := Aside0.mk (Below.refl w.heap.size w)
  have H : (if a0_0 ≥ 0 then (if a0_0 ≤ 1125899906842624 then (if a0_1 ≥ (-1099511627776) then (if a0_1 ≤ 1099511627776 then (if (a0_2.size : Int) ≥ 1 then (if (a0_2.size : Int) ≤ 200 then (if (a0_3.size : Int) ≤ 2000 then (if a0_4 = true then (some (a0_3.toList == ([] : List UInt8))) else (some true)) else (some false)) else (some false)) else (some false)) else (some false)) else (some false)) else (some false)) else (some false)) = some r := h
  clear h
  by_cases c2 : a0_0 ≥ 0
  · rw [if_pos c2] at H
    have c2b0 : decide (0 ≤ a0_0) = true := decide_eq_true c2
    clear c2
    by_cases c3 : a0_0 ≤ 1125899906842624
    · rw [if_pos c3] at H
      have c3b0 : decide (a0_0 ≤ 1125899906842624) = true := decide_eq_true c3
      clear c3
      by_cases c4 : a0_1 ≥ (-1099511627776)
      · rw [if_pos c4] at H
        have c4b0 : decide ((-1099511627776) ≤ a0_1) = true := decide_eq_true c4
        clear c4
        by_cases c5 : a0_1 ≤ 1099511627776
        · rw [if_pos c5] at H
          have c5b0 : decide (a0_1 ≤ 1099511627776) = true := decide_eq_true c5
          clear c5
          by_cases c6 : (a0_2.size : Int) ≥ 1
          · rw [if_pos c6] at H
            have c6b0 : decide (1 ≤ (a0_2.size : Int)) = true := decide_eq_true c6
            have c6b1 : decide (1 ≤ a0_2.size) = true := decide_eq_true (by omega)
            clear c6
            by_cases c7 : (a0_2.size : Int) ≤ 200
            · rw [if_pos c7] at H
              have c7b0 : decide ((a0_2.size : Int) ≤ 200) = true := decide_eq_true c7
              have c7b1 : decide (a0_2.size ≤ 200) = true := decide_eq_true (by omega)
              clear c7
              by_cases c8 : (a0_3.size : Int) ≤ 2000
              · rw [if_pos c8] at H
                have c8b0 : decide ((a0_3.size : Int) ≤ 2000) = true := decide_eq_true c8
                have c8b1 : decide (a0_3.size ≤ 2000) = true := decide_eq_true (by omega)
                clear c8
                by_cases c9 : a0_4 = true
                · subst c9
                  have H1 : (some (a0_3.toList == ([] : List UInt8))) = some r := by rw [if_pos rfl] at H; exact H
                  clear H
                  have H := H1
                  clear H1
                  obtain rfl := Option.some.inj H
                  go_enter Try.func16, Try.ntmps16
                  go_wp2_with (first | ((with_reducible refine gate_dst (N := 1) rfl ?_); (try (refine gate_guard (by rfl) ?_; dsimp only)); refine box_event ?hg (N := 1) ?hd (cs := #[.int .i64 a0_0, .int .i64 a0_1, .string a0_2, .string a0_3, .bool true]) (t := 34) ?hr ?_; (case hd => rfl); (case hg => rfl); (case hr => first | (go_simp; done) | (go_simp; rfl)); intro gb221 hg w10 hbox hb; have n0_ := Aside0.mk (vT (by repeat (first | (with_reducible first | exact HB.out | apply vA | apply vN | apply vD) | exact HB.out)) hb); have n1_ := Aside0.mk (hbox); have n2_ := Aside0.mk ((by rw [hg]; exact (vZ (by repeat (first | (with_reducible first | exact HB.out | apply vA | apply vN | apply vD) | exact HB.out))) : w.heap.size ≤ gb221)); have n3_ := Aside0.mk ((by rw [hg]; exact (vZ (by repeat (first | (with_reducible first | exact HB.out | apply vA | apply vN | apply vD) | exact HB.out))) : w.heap.size ≤ gb221)); clear HB; have HB := n0_; have BK221 := n1_; have GW221 := n2_; have GE221 := n3_; clear n0_ n1_ n2_ n3_; clear hb hbox hg; have hcz11_0 : w10.cell? ⟨gb221, 0, none⟩ = some (.int .i64 a0_0) := (bC BK221.out 0).trans rfl; have hcz11_1 : w10.cell? ⟨gb221, 1, none⟩ = some (.int .i64 a0_1) := (bC BK221.out 1).trans rfl; have hcz11_2 : w10.cell? ⟨gb221, 2, none⟩ = some (.string a0_2) := (bC BK221.out 2).trans rfl; have hcz11_3 : w10.cell? ⟨gb221, 3, none⟩ = some (.string a0_3) := (bC BK221.out 3).trans rfl; have hcz11_4 : w10.cell? ⟨gb221, 4, none⟩ = some (.bool true) := (bC BK221.out 4).trans rfl; have hfz11_0 := bF BK221.out 0; have hfz11_1 := bF BK221.out 1; have hfz11_2 := bF BK221.out 2; have hfz11_3 := bF BK221.out 3; have hfz11_4 := bF BK221.out 4))
                  go_ret
                  exact ⟨by first | rfl | (simp [*, eN, eS] <;> rfl) | (simp [eN, eS]; generalize ByteArray.toList _ = l_; cases l_ <;> rfl), by repeat (first | (with_reducible first | exact HB.out | apply vA | apply vN | apply vD | refine vS ?_ GE221.out) | exact HB.out)⟩
                · replace c9 := Bool.eq_false_iff.mpr c9
                  subst c9
                  have H1 : (some true) = some r := by rw [if_neg (show ¬ (false = true) by decide)] at H; exact H
                  clear H
                  have H := H1
                  clear H1
                  obtain rfl := Option.some.inj H
                  go_enter Try.func16, Try.ntmps16
                  go_wp2_with (first | ((with_reducible refine gate_dst (N := 1) rfl ?_); (try (refine gate_guard (by rfl) ?_; dsimp only)); refine box_event ?hg (N := 1) ?hd (cs := #[.int .i64 a0_0, .int .i64 a0_1, .string a0_2, .string a0_3, .bool false]) (t := 34) ?hr ?_; (case hd => rfl); (case hg => rfl); (case hr => first | (go_simp; done) | (go_simp; rfl)); intro gb221 hg w12 hbox hb; have n0_ := Aside0.mk (vT (by repeat (first | (with_reducible first | exact HB.out | apply vA | apply vN | apply vD) | exact HB.out)) hb); have n1_ := Aside0.mk (hbox); have n2_ := Aside0.mk ((by rw [hg]; exact (vZ (by repeat (first | (with_reducible first | exact HB.out | apply vA | apply vN | apply vD) | exact HB.out))) : w.heap.size ≤ gb221)); have n3_ := Aside0.mk ((by rw [hg]; exact (vZ (by repeat (first | (with_reducible first | exact HB.out | apply vA | apply vN | apply vD) | exact HB.out))) : w.heap.size ≤ gb221)); clear HB; have HB := n0_; have BK221 := n1_; have GW221 := n2_; have GE221 := n3_; clear n0_ n1_ n2_ n3_; clear hb hbox hg; have hcz13_0 : w12.cell? ⟨gb221, 0, none⟩ = some (.int .i64 a0_0) := (bC BK221.out 0).trans rfl; have hcz13_1 : w12.cell? ⟨gb221, 1, none⟩ = some (.int .i64 a0_1) := (bC BK221.out 1).trans rfl; have hcz13_2 : w12.cell? ⟨gb221, 2, none⟩ = some (.string a0_2) := (bC BK221.out 2).trans rfl; have hcz13_3 : w12.cell? ⟨gb221, 3, none⟩ = some (.string a0_3) := (bC BK221.out 3).trans rfl; have hcz13_4 : w12.cell? ⟨gb221, 4, none⟩ = some (.bool false) := (bC BK221.out 4).trans rfl; have hfz13_0 := bF BK221.out 0; have hfz13_1 := bF BK221.out 1; have hfz13_2 := bF BK221.out 2; have hfz13_3 := bF BK221.out 3; have hfz13_4 := bF BK221.out 4))
                  go_ret
                  exact ⟨by first | rfl | (simp [*, eN, eS] <;> rfl) | (simp [eN, eS]; generalize ByteArray.toList _ = l_; cases l_ <;> rfl), by repeat (first | (with_reducible first | exact HB.out | apply vA | apply vN | apply vD | refine vS ?_ GE221.out) | exact HB.out)⟩
              · rw [if_neg c8] at H
                have c8b0 : decide ((a0_3.size : Int) ≤ 2000) = false := decide_eq_false c8
                have c8b1 : decide (a0_3.size ≤ 2000) = false := decide_eq_false (by omega)
                clear c8
                obtain rfl := Option.some.inj H
                go_enter Try.func16, Try.ntmps16
                go_wp2_with (first | ((with_reducible refine gate_dst (N := 1) rfl ?_); (try (refine gate_guard (by rfl) ?_; dsimp only)); refine box_event ?hg (N := 1) ?hd (cs := #[.int .i64 a0_0, .int .i64 a0_1, .string a0_2, .string a0_3, .bool a0_4]) (t := 34) ?hr ?_; (case hd => rfl); (case hg => rfl); (case hr => first | (go_simp; done) | (go_simp; rfl)); intro gb221 hg w14 hbox hb; have n0_ := Aside0.mk (vT (by repeat (first | (with_reducible first | exact HB.out | apply vA | apply vN | apply vD) | exact HB.out)) hb); have n1_ := Aside0.mk (hbox); have n2_ := Aside0.mk ((by rw [hg]; exact (vZ (by repeat (first | (with_reducible first | exact HB.out | apply vA | apply vN | apply vD) | exact HB.out))) : w.heap.size ≤ gb221)); have n3_ := Aside0.mk ((by rw [hg]; exact (vZ (by repeat (first | (with_reducible first | exact HB.out | apply vA | apply vN | apply vD) | exact HB.out))) : w.heap.size ≤ gb221)); clear HB; have HB := n0_; have BK221 := n1_; have GW221 := n2_; have GE221 := n3_; clear n0_ n1_ n2_ n3_; clear hb hbox hg; have hcz15_0 : w14.cell? ⟨gb221, 0, none⟩ = some (.int .i64 a0_0) := (bC BK221.out 0).trans rfl; have hcz15_1 : w14.cell? ⟨gb221, 1, none⟩ = some (.int .i64 a0_1) := (bC BK221.out 1).trans rfl; have hcz15_2 : w14.cell? ⟨gb221, 2, none⟩ = some (.string a0_2) := (bC BK221.out 2).trans rfl; have hcz15_3 : w14.cell? ⟨gb221, 3, none⟩ = some (.string a0_3) := (bC BK221.out 3).trans rfl; have hcz15_4 : w14.cell? ⟨gb221, 4, none⟩ = some (.bool a0_4) := (bC BK221.out 4).trans rfl; have hfz15_0 := bF BK221.out 0; have hfz15_1 := bF BK221.out 1; have hfz15_2 := bF BK221.out 2; have hfz15_3 := bF BK221.out 3; have hfz15_4 := bF BK221.out 4))
                go_ret
                exact ⟨by first | rfl | (simp [*, eN, eS] <;> rfl) | (simp [eN, eS]; generalize ByteArray.toList _ = l_; cases l_ <;> rfl), by repeat (first | (with_reducible first | exact HB.out | apply vA | apply vN | apply vD | refine vS ?_ GE221.out) | exact HB.out)⟩
            · rw [if_neg c7] at H
              have c7b0 : decide ((a0_2.size : Int) ≤ 200) = false := decide_eq_false c7
              have c7b1 : decide (a0_2.size ≤ 200) = false := decide_eq_false (by omega)
              clear c7
              obtain rfl := Option.some.inj H
              go_enter Try.func16, Try.ntmps16
              go_wp2_with (first | ((with_reducible refine gate_dst (N := 1) rfl ?_); (try (refine gate_guard (by rfl) ?_; dsimp only)); refine box_event ?hg (N := 1) ?hd (cs := #[.int .i64 a0_0, .int .i64 a0_1, .string a0_2, .string a0_3, .bool a0_4]) (t := 34) ?hr ?_; (case hd => rfl); (case hg => rfl); (case hr => first | (go_simp; done) | (go_simp; rfl)); intro gb221 hg w16 hbox hb; have n0_ := Aside0.mk (vT (by repeat (first | (with_reducible first | exact HB.out | apply vA | apply vN | apply vD) | exact HB.out)) hb); have n1_ := Aside0.mk (hbox); have n2_ := Aside0.mk ((by rw [hg]; exact (vZ (by repeat (first | (with_reducible first | exact HB.out | apply vA | apply vN | apply vD) | exact HB.out))) : w.heap.size ≤ gb221)); have n3_ := Aside0.mk ((by rw [hg]; exact (vZ (by repeat (first | (with_reducible first | exact HB.out | apply vA | apply vN | apply vD) | exact HB.out))) : w.heap.size ≤ gb221)); clear HB; have HB := n0_; have BK221 := n1_; have GW221 := n2_; have GE221 := n3_; clear n0_ n1_ n2_ n3_; clear hb hbox hg; have hcz17_0 : w16.cell? ⟨gb221, 0, none⟩ = some (.int .i64 a0_0) := (bC BK221.out 0).trans rfl; have hcz17_1 : w16.cell? ⟨gb221, 1, none⟩ = some (.int .i64 a0_1) := (bC BK221.out 1).trans rfl; have hcz17_2 : w16.cell? ⟨gb221, 2, none⟩ = some (.string a0_2) := (bC BK221.out 2).trans rfl; have hcz17_3 : w16.cell? ⟨gb221, 3, none⟩ = some (.string a0_3) := (bC BK221.out 3).trans rfl; have hcz17_4 : w16.cell? ⟨gb221, 4, none⟩ = some (.bool a0_4) := (bC BK221.out 4).trans rfl; have hfz17_0 := bF BK221.out 0; have hfz17_1 := bF BK221.out 1; have hfz17_2 := bF BK221.out 2; have hfz17_3 := bF BK221.out 3; have hfz17_4 := bF BK221.out 4))
              go_ret
              exact ⟨by first | rfl | (simp [*, eN, eS] <;> rfl) | (simp [eN, eS]; generalize ByteArray.toList _ = l_; cases l_ <;> rfl), by repeat (first | (with_reducible first | exact HB.out | apply vA | apply vN | apply vD | refine vS ?_ GE221.out) | exact HB.out)⟩
          · rw [if_neg c6] at H
            have c6b0 : decide (1 ≤ (a0_2.size : Int)) = false := decide_eq_false c6
            have c6b1 : decide (1 ≤ a0_2.size) = false := decide_eq_false (by omega)
            clear c6
            obtain rfl := Option.some.inj H
            go_enter Try.func16, Try.ntmps16
            go_wp2_with (first | ((with_reducible refine gate_dst (N := 1) rfl ?_); (try (refine gate_guard (by rfl) ?_; dsimp only)); refine box_event ?hg (N := 1) ?hd (cs := #[.int .i64 a0_0, .int .i64 a0_1, .string a0_2, .string a0_3, .bool a0_4]) (t := 34) ?hr ?_; (case hd => rfl); (case hg => rfl); (case hr => first | (go_simp; done) | (go_simp; rfl)); intro gb221 hg w18 hbox hb; have n0_ := Aside0.mk (vT (by repeat (first | (with_reducible first | exact HB.out | apply vA | apply vN | apply vD) | exact HB.out)) hb); have n1_ := Aside0.mk (hbox); have n2_ := Aside0.mk ((by rw [hg]; exact (vZ (by repeat (first | (with_reducible first | exact HB.out | apply vA | apply vN | apply vD) | exact HB.out))) : w.heap.size ≤ gb221)); have n3_ := Aside0.mk ((by rw [hg]; exact (vZ (by repeat (first | (with_reducible first | exact HB.out | apply vA | apply vN | apply vD) | exact HB.out))) : w.heap.size ≤ gb221)); clear HB; have HB := n0_; have BK221 := n1_; have GW221 := n2_; have GE221 := n3_; clear n0_ n1_ n2_ n3_; clear hb hbox hg; have hcz19_0 : w18.cell? ⟨gb221, 0, none⟩ = some (.int .i64 a0_0) := (bC BK221.out 0).trans rfl; have hcz19_1 : w18.cell? ⟨gb221, 1, none⟩ = some (.int .i64 a0_1) := (bC BK221.out 1).trans rfl; have hcz19_2 : w18.cell? ⟨gb221, 2, none⟩ = some (.string a0_2) := (bC BK221.out 2).trans rfl; have hcz19_3 : w18.cell? ⟨gb221, 3, none⟩ = some (.string a0_3) := (bC BK221.out 3).trans rfl; have hcz19_4 : w18.cell? ⟨gb221, 4, none⟩ = some (.bool a0_4) := (bC BK221.out 4).trans rfl; have hfz19_0 := bF BK221.out 0; have hfz19_1 := bF BK221.out 1; have hfz19_2 := bF BK221.out 2; have hfz19_3 := bF BK221.out 3; have hfz19_4 := bF BK221.out 4))
            go_ret
            exact ⟨by first | rfl | (simp [*, eN, eS] <;> rfl) | (simp [eN, eS]; generalize ByteArray.toList _ = l_; cases l_ <;> rfl), by repeat (first | (with_reducible first | exact HB.out | apply vA | apply vN | apply vD | refine vS ?_ GE221.out) | exact HB.out)⟩
        · rw [if_neg c5] at H
          have c5b0 : decide (a0_1 ≤ 1099511627776) = false := decide_eq_false c5
          clear c5
          obtain rfl := Option.some.inj H
          go_enter Try.func16, Try.ntmps16
          go_wp2_with (first | ((with_reducible refine gate_dst (N := 1) rfl ?_); (try (refine gate_guard (by rfl) ?_; dsimp only)); refine box_event ?hg (N := 1) ?hd (cs := #[.int .i64 a0_0, .int .i64 a0_1, .string a0_2, .string a0_3, .bool a0_4]) (t := 34) ?hr ?_; (case hd => rfl); (case hg => rfl); (case hr => first | (go_simp; done) | (go_simp; rfl)); intro gb221 hg w20 hbox hb; have n0_ := Aside0.mk (vT (by repeat (first | (with_reducible first | exact HB.out | apply vA | apply vN | apply vD) | exact HB.out)) hb); have n1_ := Aside0.mk (hbox); have n2_ := Aside0.mk ((by rw [hg]; exact (vZ (by repeat (first | (with_reducible first | exact HB.out | apply vA | apply vN | apply vD) | exact HB.out))) : w.heap.size ≤ gb221)); have n3_ := Aside0.mk ((by rw [hg]; exact (vZ (by repeat (first | (with_reducible first | exact HB.out | apply vA | apply vN | apply vD) | exact HB.out))) : w.heap.size ≤ gb221)); clear HB; have HB := n0_; have BK221 := n1_; have GW221 := n2_; have GE221 := n3_; clear n0_ n1_ n2_ n3_; clear hb hbox hg; have hcz21_0 : w20.cell? ⟨gb221, 0, none⟩ = some (.int .i64 a0_0) := (bC BK221.out 0).trans rfl; have hcz21_1 : w20.cell? ⟨gb221, 1, none⟩ = some (.int .i64 a0_1) := (bC BK221.out 1).trans rfl; have hcz21_2 : w20.cell? ⟨gb221, 2, none⟩ = some (.string a0_2) := (bC BK221.out 2).trans rfl; have hcz21_3 : w20.cell? ⟨gb221, 3, none⟩ = some (.string a0_3) := (bC BK221.out 3).trans rfl; have hcz21_4 : w20.cell? ⟨gb221, 4, none⟩ = some (.bool a0_4) := (bC BK221.out 4).trans rfl; have hfz21_0 := bF BK221.out 0; have hfz21_1 := bF BK221.out 1; have hfz21_2 := bF BK221.out 2; have hfz21_3 := bF BK221.out 3; have hfz21_4 := bF BK221.out 4))
          go_ret
          exact ⟨by first | rfl | (simp [*, eN, eS] <;> rfl) | (simp [eN, eS]; generalize ByteArray.toList _ = l_; cases l_ <;> rfl), by repeat (first | (with_reducible first | exact HB.out | apply vA | apply vN | apply vD | refine vS ?_ GE221.out) | exact HB.out)⟩
      · rw [if_neg c4] at H
        have c4b0 : decide ((-1099511627776) ≤ a0_1) = false := decide_eq_false c4
        clear c4
        obtain rfl := Option.some.inj H
        go_enter Try.func16, Try.ntmps16
        go_wp2_with (first | ((with_reducible refine gate_dst (N := 1) rfl ?_); (try (refine gate_guard (by rfl) ?_; dsimp only)); refine box_event ?hg (N := 1) ?hd (cs := #[.int .i64 a0_0, .int .i64 a0_1, .string a0_2, .string a0_3, .bool a0_4]) (t := 34) ?hr ?_; (case hd => rfl); (case hg => rfl); (case hr => first | (go_simp; done) | (go_simp; rfl)); intro gb221 hg w22 hbox hb; have n0_ := Aside0.mk (vT (by repeat (first | (with_reducible first | exact HB.out | apply vA | apply vN | apply vD) | exact HB.out)) hb); have n1_ := Aside0.mk (hbox); have n2_ := Aside0.mk ((by rw [hg]; exact (vZ (by repeat (first | (with_reducible first | exact HB.out | apply vA | apply vN | apply vD) | exact HB.out))) : w.heap.size ≤ gb221)); have n3_ := Aside0.mk ((by rw [hg]; exact (vZ (by repeat (first | (with_reducible first | exact HB.out | apply vA | apply vN | apply vD) | exact HB.out))) : w.heap.size ≤ gb221)); clear HB; have HB := n0_; have BK221 := n1_; have GW221 := n2_; have GE221 := n3_; clear n0_ n1_ n2_ n3_; clear hb hbox hg; have hcz23_0 : w22.cell? ⟨gb221, 0, none⟩ = some (.int .i64 a0_0) := (bC BK221.out 0).trans rfl; have hcz23_1 : w22.cell? ⟨gb221, 1, none⟩ = some (.int .i64 a0_1) := (bC BK221.out 1).trans rfl; have hcz23_2 : w22.cell? ⟨gb221, 2, none⟩ = some (.string a0_2) := (bC BK221.out 2).trans rfl; have hcz23_3 : w22.cell? ⟨gb221, 3, none⟩ = some (.string a0_3) := (bC BK221.out 3).trans rfl; have hcz23_4 : w22.cell? ⟨gb221, 4, none⟩ = some (.bool a0_4) := (bC BK221.out 4).trans rfl; have hfz23_0 := bF BK221.out 0; have hfz23_1 := bF BK221.out 1; have hfz23_2 := bF BK221.out 2; have hfz23_3 := bF BK221.out 3; have hfz23_4 := bF BK221.out 4))
        go_ret
        exact ⟨by first | rfl | (simp [*, eN, eS] <;> rfl) | (simp [eN, eS]; generalize ByteArray.toList _ = l_; cases l_ <;> rfl), by repeat (first | (with_reducible first | exact HB.out | apply vA | apply vN | apply vD | refine vS ?_ GE221.out) | exact HB.out)⟩
    · rw [if_neg c3] at H
      have c3b0 : decide (a0_0 ≤ 1125899906842624) = false := decide_eq_false c3
      clear c3
      obtain rfl := Option.some.inj H
      go_enter Try.func16, Try.ntmps16
      go_wp2_with (first | ((with_reducible refine gate_dst (N := 1) rfl ?_); (try (refine gate_guard (by rfl) ?_; dsimp only)); refine box_event ?hg (N := 1) ?hd (cs := #[.int .i64 a0_0, .int .i64 a0_1, .string a0_2, .string a0_3, .bool a0_4]) (t := 34) ?hr ?_; (case hd => rfl); (case hg => rfl); (case hr => first | (go_simp; done) | (go_simp; rfl)); intro gb221 hg w24 hbox hb; have n0_ := Aside0.mk (vT (by repeat (first | (with_reducible first | exact HB.out | apply vA | apply vN | apply vD) | exact HB.out)) hb); have n1_ := Aside0.mk (hbox); have n2_ := Aside0.mk ((by rw [hg]; exact (vZ (by repeat (first | (with_reducible first | exact HB.out | apply vA | apply vN | apply vD) | exact HB.out))) : w.heap.size ≤ gb221)); have n3_ := Aside0.mk ((by rw [hg]; exact (vZ (by repeat (first | (with_reducible first | exact HB.out | apply vA | apply vN | apply vD) | exact HB.out))) : w.heap.size ≤ gb221)); clear HB; have HB := n0_; have BK221 := n1_; have GW221 := n2_; have GE221 := n3_; clear n0_ n1_ n2_ n3_; clear hb hbox hg; have hcz25_0 : w24.cell? ⟨gb221, 0, none⟩ = some (.int .i64 a0_0) := (bC BK221.out 0).trans rfl; have hcz25_1 : w24.cell? ⟨gb221, 1, none⟩ = some (.int .i64 a0_1) := (bC BK221.out 1).trans rfl; have hcz25_2 : w24.cell? ⟨gb221, 2, none⟩ = some (.string a0_2) := (bC BK221.out 2).trans rfl; have hcz25_3 : w24.cell? ⟨gb221, 3, none⟩ = some (.string a0_3) := (bC BK221.out 3).trans rfl; have hcz25_4 : w24.cell? ⟨gb221, 4, none⟩ = some (.bool a0_4) := (bC BK221.out 4).trans rfl; have hfz25_0 := bF BK221.out 0; have hfz25_1 := bF BK221.out 1; have hfz25_2 := bF BK221.out 2; have hfz25_3 := bF BK221.out 3; have hfz25_4 := bF BK221.out 4))
      go_ret
      exact ⟨by first | rfl | (simp [*, eN, eS] <;> rfl) | (simp [eN, eS]; generalize ByteArray.toList _ = l_; cases l_ <;> rfl), by repeat (first | (with_reducible first | exact HB.out | apply vA | apply vN | apply vD | refine vS ?_ GE221.out) | exact HB.out)⟩
  · rw [if_neg c2] at H
    have c2b0 : decide (0 ≤ a0_0) = false := decide_eq_false c2
    clear c2
    obtain rfl := Option.some.inj H
    go_enter Try.func16, Try.ntmps16
    go_wp2_with (first | ((with_reducible refine gate_dst (N := 1) rfl ?_); (try (refine gate_guard (by rfl) ?_; dsimp only)); refine box_event ?hg (N := 1) ?hd (cs := #[.int .i64 a0_0, .int .i64 a0_1, .string a0_2, .string a0_3, .bool a0_4]) (t := 34) ?hr ?_; (case hd => rfl); (case hg => rfl); (case hr => first | (go_simp; done) | (go_simp; rfl)); intro gb221 hg w26 hbox hb; have n0_ := Aside0.mk (vT (by repeat (first | (with_reducible first | exact HB.out | apply vA | apply vN | apply vD) | exact HB.out)) hb); have n1_ := Aside0.mk (hbox); have n2_ := Aside0.mk ((by rw [hg]; exact (vZ (by repeat (first | (with_reducible first | exact HB.out | apply vA | apply vN | apply vD) | exact HB.out))) : w.heap.size ≤ gb221)); have n3_ := Aside0.mk ((by rw [hg]; exact (vZ (by repeat (first | (with_reducible first | exact HB.out | apply vA | apply vN | apply vD) | exact HB.out))) : w.heap.size ≤ gb221)); clear HB; have HB := n0_; have BK221 := n1_; have GW221 := n2_; have GE221 := n3_; clear n0_ n1_ n2_ n3_; clear hb hbox hg; have hcz27_0 : w26.cell? ⟨gb221, 0, none⟩ = some (.int .i64 a0_0) := (bC BK221.out 0).trans rfl; have hcz27_1 : w26.cell? ⟨gb221, 1, none⟩ = some (.int .i64 a0_1) := (bC BK221.out 1).trans rfl; have hcz27_2 : w26.cell? ⟨gb221, 2, none⟩ = some (.string a0_2) := (bC BK221.out 2).trans rfl; have hcz27_3 : w26.cell? ⟨gb221, 3, none⟩ = some (.string a0_3) := (bC BK221.out 3).trans rfl; have hcz27_4 : w26.cell? ⟨gb221, 4, none⟩ = some (.bool a0_4) := (bC BK221.out 4).trans rfl; have hfz27_0 := bF BK221.out 0; have hfz27_1 := bF BK221.out 1; have hfz27_2 := bF BK221.out 2; have hfz27_3 := bF BK221.out 3; have hfz27_4 := bF BK221.out 4))
    go_ret
    exact ⟨by first | rfl | (simp [*, eN, eS] <;> rfl) | (simp [eN, eS]; generalize ByteArray.toList _ = l_; cases l_ <;> rfl), by repeat (first | (with_reducible first | exact HB.out | apply vA | apply vN | apply vD | refine vS ?_ GE221.out) | exact HB.out)⟩

/-! ### cooperageref1_Put: function 53 -/
def cooperageref1_Put.l0 : Nat → List Int → Int → Option (List Int)
  | 0, _, _ => none
  | k + 1, x0, x1 => if x1 > 127 then (if x0.length < 140737488355328 then (cooperageref1_Put.l0 k (x0 ++ [Go.bits .or .u8 ((Go.bits .and .u64 x1 127) % 256) 128]) (x1 / 128)) else (none)) else (if x0.length < 140737488355328 then (some (x0 ++ [(x1) % 256])) else (none))
def cooperageref1_Put.f (k : Nat) (l0 : List Int) (a1 : Int) : Option (List Int) := if ([] : List Int).length + l0.length < 140737488355328 then (cooperageref1_Put.l0 k (([] : List Int) ++ l0) a1) else (none)
theorem cooperageref1_Put.mono_l : ∀ k, (∀ y0 y1, LeO (cooperageref1_Put.l0 k y0 y1) (cooperageref1_Put.l0 (k + 1) y0 y1))
  | 0 => fun _ _ r h => by simp [cooperageref1_Put.l0] at h
  | k + 1 => by
    have ih0 := cooperageref1_Put.mono_l k
    · intro y0 y1
      unfold cooperageref1_Put.l0
      repeat' first
      | (with_reducible exact LeO.refl _)
      | (with_reducible exact LeO.none _)
      | (with_reducible refine LeO.ite ?_ ?_)
      | (with_reducible refine LeO.bind ?_ (fun _ => ?_))
      | exact ih0 _ _
      | exact LeO.none _
      | refine LeO.ite ?_ ?_
      | refine LeO.bind ?_ (fun _ => ?_)
theorem cooperageref1_Put.mono : ∀ a0 a1 k, LeO (cooperageref1_Put.f k a0 a1) (cooperageref1_Put.f (k + 1) a0 a1) := by
  intro a0 a1 k
  have ih0 := cooperageref1_Put.mono_l k
  unfold cooperageref1_Put.f
  repeat' first
      | (with_reducible exact LeO.refl _)
      | (with_reducible exact LeO.none _)
      | (with_reducible refine LeO.ite ?_ ?_)
      | (with_reducible refine LeO.bind ?_ (fun _ => ?_))
      | exact ih0 _ _
      | exact LeO.none _
      | refine LeO.ite ?_ ?_
      | refine LeO.bind ?_ (fun _ => ?_)
set_option maxHeartbeats 8000000 in
set_option maxRecDepth 100000 in
theorem cooperageref1_Put.calls (k : Nat) (A0 : Option Addr) (c0 : Nat) (l0 : List Int) (a1 : Int) (r : List Int) (w : World) (hr0 : Kd.C (Kd.int .u8) w A0 l0.length l0) (hc0 : l0.length ≤ c0) (h : cooperageref1_Put.f k l0 a1 = some r) :
    Calls Try.prog 53 #[.slice A0 l0.length c0, .int .u64 a1] w fun e w' => ∃ v0_ : Value, e = .returned (v0_) ∧ Kd.R (Kd.int .u8) 5 w' w.heap.size (fun _ => True) v0_ r ∧ Below w.heap.size w w' := by
  have HR0 := Aside0.mk hr0
  have HC0 := Aside0.mk hc0
  clear hr0 hc0
  have HB := Aside0.mk (Below.refl w.heap.size w)
  have H : (if ([] : List Int).length + l0.length < 140737488355328 then (cooperageref1_Put.l0 k (([] : List Int) ++ l0) a1) else (none)) = some r := h
  clear h
  by_cases c3 : ([] : List Int).length + l0.length < 140737488355328
  · rw [if_pos c3] at H
    have LMc3 := Aside0.mk c3
    clear c3
    obtain ⟨y222, hy222⟩ : ∃ y_ : List Int, y_ = (([] : List Int) ++ l0) := ⟨_, rfl⟩
    replace H : (cooperageref1_Put.l0 k y222 a1) = some r := by first | (rw [hy222]; with_reducible exact H) | (have H2_ := (Option.bind_some _ _).symm.trans H; rw [hy222]; with_reducible exact H2_) | (have H2_ := (Option.bind_some _ _).symm.trans H; with_reducible exact H2_) | with_reducible exact H | (rw [hy222]; exact H) | exact H
    have Ny222 := Aside0.mk hy222
    clear hy222
    have H' := Aside0.mk H
    clear H
    go_enter Try.func53, Try.ntmps53
    go_wp2_with (first | ((with_reducible refine gate_builtin (b := .append) (xs := #[(.const (.slice none 0 0)), .tmp 5]) rfl ?_); at_builtin; refine Kd.R_append_rows (Kd.int .u8) (w0 := w) w.heap.size rfl (.const (.slice none 0 0)) (.tmp 5) 37 5 (.int .u8 0) 1 rfl Try.underlying37 info5 rfl (by decide) (by omega) (.slice none 0 0) ([] : List Int) l0 _ _ _ (fun _ => True) (fun _ => False) rfl rfl ?aO ?aR (fun _ _ h => h) (fun _ h => h.elim) ?aF ?aB ?aS ?aL ?_; (case aR => repeat (first | exact HR0.out | (with_reducible refine Kd.C_alloc ?_ _) | (with_reducible refine Kd.C_drewN ?_ _) | (with_reducible refine Kd.C_drew ?_))); (case aB => exact (by repeat (first | (with_reducible first | exact HB.out | apply vA | apply vN | apply vD) | exact HB.out))); (case aF => exact (fun _ _ => trivial)); (case aO => exact ((Kd.R_nil _ _ _ _ (fun _ => True)))); (case aS => exact (vZ (by repeat (first | (with_reducible first | exact HB.out | apply vA | apply vN | apply vD) | exact HB.out)))); (case aL => have := LMc3.out; omega); intro v223 w4 ho hb hg hat; rw [← Ny222.out] at ho; have n0_ := Aside0.mk (hb); have n1_ := Aside0.mk (ho); clear HB; have HB := n0_; have HO224 := n1_; clear n0_ n1_; clear ho hb hg hat))
    go_loopg [0, 1] k (fun kq v0 v1 w' => ∃ (x0_1 : List Int) (x1_1 : Int), v1 = .int .u64 x1_1 ∧ Aside0 (cooperageref1_Put.l0 kq x0_1 x1_1 = some r) ∧ Aside0 (kq ≤ k) ∧ Aside0 (Kd.R (Kd.int .u8) 5 w' w.heap.size (fun _ => True) v0 x0_1) ∧ Aside0 (Below w.heap.size w w'))
    case atStart => exact ⟨(y222), (a1), (by first | rfl | (simp; done) | (simp [*]; done)), H', ⟨Nat.le_refl _⟩, ⟨by (with_reducible repeat (first | apply Kd.RA | apply Kd.RN | apply Kd.RD)); exact HO224.out⟩, ⟨by repeat (first | (with_reducible first | exact HB.out | apply vA | apply vN | apply vD) | exact HB.out)⟩⟩
    case round =>
      clear H'
      try clear p2
      try clear c3
      obtain ⟨x0_1, x1_1, rfl, HA, HK1, HO_0, HB⟩ := hrel
      cases gk with
      | zero => exact absurd HA.out (by simp [cooperageref1_Put.l0])
      | succ k1 =>
        have H := HA.out
        clear HA
        simp only [cooperageref1_Put.l0] at H
        by_cases c5 : x1_1 > 127
        · rw [if_pos c5] at H
          have c5b0 : decide (127 < x1_1) = true := decide_eq_true c5
          clear c5
          by_cases c6 : x0_1.length < 140737488355328
          · rw [if_pos c6] at H
            have LMc6 := Aside0.mk c6
            clear c6
            obtain ⟨y225, hy225⟩ : ∃ y_ : List Int, y_ = (x0_1 ++ [Go.bits .or .u8 ((Go.bits .and .u64 x1_1 127) % 256) 128]) := ⟨_, rfl⟩
            replace H : (cooperageref1_Put.l0 k1 y225 (x1_1 / 128)) = some r := by first | (rw [hy225]; with_reducible exact H) | (have H2_ := (Option.bind_some _ _).symm.trans H; rw [hy225]; with_reducible exact H2_) | (have H2_ := (Option.bind_some _ _).symm.trans H; with_reducible exact H2_) | with_reducible exact H | (rw [hy225]; exact H) | exact H
            have Ny225 := Aside0.mk hy225
            clear hy225
            have H' := Aside0.mk H
            clear H
            go_wp2_with (first | ((with_reducible refine gate_builtin (b := .append) (xs := #[(.tmp 9), .tmp 14]) rfl ?_); at_builtin; refine Kd.R_append (Kd.int .u8) (w0 := w) w.heap.size rfl (.tmp 9) (.tmp 14) 37 5 (.int .u8 0) 1 rfl Try.underlying37 info5 rfl (by decide) (by omega) u0 x0_1 (Go.bits .or .u8 ((Go.bits .and .u64 x1_1 127) % 256) 128) [.int .u8 (Go.bits .or .u8 ((Go.bits .and .u64 x1_1 127) % 256) 128)] (fun _ => True) (fun _ => False) rfl rfl ?aP (fun _ hk => hk.elim) ?aF ?aO ?aB ?aS ?aL ?_; (case aP => exact rfl); (case aB => exact (by repeat (first | (with_reducible first | exact HB.out | apply vA | apply vN | apply vD) | exact HB.out))); (case aF => exact (fun _ _ => trivial)); (case aO => exact (by (with_reducible repeat (first | apply Kd.RA | apply Kd.RN | apply Kd.RD)); exact HO_0.out)); (case aS => exact (vZ (by repeat (first | (with_reducible first | exact HB.out | apply vA | apply vN | apply vD) | exact HB.out)))); (case aL => have := LMc6.out; omega); intro v226 w7 ho hb hg hat; rw [← Ny225.out] at ho; have n0_ := Aside0.mk (hb); have n1_ := Aside0.mk (ho); clear HB; clear HO_0; have HB := n0_; have HO227 := n1_; clear n0_ n1_; clear ho hb hg hat))
            go_roundg k1
            case measure => have := HK1.out; omega
            case rel => exact ⟨(y225), (x1_1 / 128), (by first | rfl | (simp; done) | (simp [*]; done)), H', ⟨by have := HK1.out; omega⟩, ⟨by (with_reducible repeat (first | apply Kd.RA | apply Kd.RN | apply Kd.RD)); exact HO227.out⟩, ⟨by repeat (first | (with_reducible first | exact HB.out | apply vA | apply vN | apply vD) | exact HB.out)⟩⟩
          · rw [if_neg c6] at H
            exact absurd H (by simp)
        · rw [if_neg c5] at H
          have c5b0 : decide (127 < x1_1) = false := decide_eq_false c5
          clear c5
          by_cases c8 : x0_1.length < 140737488355328
          · rw [if_pos c8] at H
            have LMc8 := Aside0.mk c8
            clear c8
            obtain ⟨y228, hy228⟩ : ∃ y_ : List Int, y_ = (x0_1 ++ [(x1_1) % 256]) := ⟨_, rfl⟩
            replace H : (some y228) = some r := by first | (rw [hy228]; with_reducible exact H) | (have H2_ := (Option.bind_some _ _).symm.trans H; rw [hy228]; with_reducible exact H2_) | (have H2_ := (Option.bind_some _ _).symm.trans H; with_reducible exact H2_) | with_reducible exact H | (rw [hy228]; exact H) | exact H
            have Ny228 := Aside0.mk hy228
            clear hy228
            obtain rfl := Option.some.inj H
            go_wp2_with (first | ((with_reducible refine gate_builtin (b := .append) (xs := #[(.tmp 18), .tmp 21]) rfl ?_); at_builtin; refine Kd.R_append (Kd.int .u8) (w0 := w) w.heap.size rfl (.tmp 18) (.tmp 21) 37 5 (.int .u8 0) 1 rfl Try.underlying37 info5 rfl (by decide) (by omega) u0 x0_1 ((x1_1) % 256) [.int .u8 ((x1_1) % 256)] (fun _ => True) (fun _ => False) rfl rfl ?aP (fun _ hk => hk.elim) ?aF ?aO ?aB ?aS ?aL ?_; (case aP => exact rfl); (case aB => exact (by repeat (first | (with_reducible first | exact HB.out | apply vA | apply vN | apply vD) | exact HB.out))); (case aF => exact (fun _ _ => trivial)); (case aO => exact (by (with_reducible repeat (first | apply Kd.RA | apply Kd.RN | apply Kd.RD)); exact HO_0.out)); (case aS => exact (vZ (by repeat (first | (with_reducible first | exact HB.out | apply vA | apply vN | apply vD) | exact HB.out)))); (case aL => have := LMc8.out; omega); intro v229 w9 ho hb hg hat; rw [← Ny228.out] at ho; have n0_ := Aside0.mk (hb); have n1_ := Aside0.mk (ho); clear HB; clear HO_0; have HB := n0_; have HO230 := n1_; clear n0_ n1_; clear ho hb hg hat))
            go_ret
            exact ⟨_, by first | rfl | (simp [*, eN, eS] <;> rfl) | (simp [eN, eS]; generalize ByteArray.toList _ = l_; cases l_ <;> rfl), by (with_reducible repeat (first | apply Kd.RA | apply Kd.RN | apply Kd.RD)); exact HO230.out, by repeat (first | (with_reducible first | exact HB.out | apply vA | apply vN | apply vD) | exact HB.out)⟩
          · rw [if_neg c8] at H
            exact absurd H (by simp)
  · rw [if_neg c3] at H
    exact absurd H (by simp)
/-! ### cooperageref1_More: function 69 -/
mutual
def cooperageref1_More.l0 : Nat → List Int → Int → Int → Option (Int)
  | 0, _, _, _ => none
  | k + 1, x1, x5, x6 => if x6 < (x1.length : Int) then (if 0 ≤ x6 then (cooperageref1_More.l1 k x1 (Go.bits .xor .u32 x5 ((rd x1 x6) % 4294967296)) x6 0) else (none)) else (some (Go.bits .xor .u32 4294967295 x5))
def cooperageref1_More.l1 : Nat → List Int → Int → Int → Int → Option (Int)
  | 0, _, _, _, _ => none
  | k + 1, x1, x5, x6, x7 => if x7 < 8 then (if (Go.bits .and .u32 x5 1) = 1 then (cooperageref1_More.l1 k x1 (Go.bits .xor .u32 (x5 / 2) 3988292384) x6 (wrap64 (x7 + 1))) else (cooperageref1_More.l1 k x1 (x5 / 2) x6 (wrap64 (x7 + 1)))) else (cooperageref1_More.l0 k x1 x5 (wrap64 (x6 + 1)))
end
def cooperageref1_More.f (k : Nat) (a0 : Int) (l1 : List Int) : Option (Int) := cooperageref1_More.l0 k l1 (Go.bits .xor .u32 4294967295 a0) 0
theorem cooperageref1_More.mono_l : ∀ k, (∀ y0 y1 y2, LeO (cooperageref1_More.l0 k y0 y1 y2) (cooperageref1_More.l0 (k + 1) y0 y1 y2)) ∧ (∀ y0 y1 y2 y3, LeO (cooperageref1_More.l1 k y0 y1 y2 y3) (cooperageref1_More.l1 (k + 1) y0 y1 y2 y3))
  | 0 => ⟨fun _ _ _ r h => by simp [cooperageref1_More.l0] at h, fun _ _ _ _ r h => by simp [cooperageref1_More.l1] at h⟩
  | k + 1 => by
    obtain ⟨ih0, ih1⟩ := cooperageref1_More.mono_l k
    refine ⟨?_, ?_⟩
    · intro y0 y1 y2
      unfold cooperageref1_More.l0
      repeat' first
      | (with_reducible exact LeO.refl _)
      | (with_reducible exact LeO.none _)
      | (with_reducible refine LeO.ite ?_ ?_)
      | (with_reducible refine LeO.bind ?_ (fun _ => ?_))
      | exact ih0 _ _ _
      | exact ih1 _ _ _ _
      | exact LeO.none _
      | refine LeO.ite ?_ ?_
      | refine LeO.bind ?_ (fun _ => ?_)
    · intro y0 y1 y2 y3
      unfold cooperageref1_More.l1
      repeat' first
      | (with_reducible exact LeO.refl _)
      | (with_reducible exact LeO.none _)
      | (with_reducible refine LeO.ite ?_ ?_)
      | (with_reducible refine LeO.bind ?_ (fun _ => ?_))
      | exact ih0 _ _ _
      | exact ih1 _ _ _ _
      | exact LeO.none _
      | refine LeO.ite ?_ ?_
      | refine LeO.bind ?_ (fun _ => ?_)
theorem cooperageref1_More.mono : ∀ a0 a1 k, LeO (cooperageref1_More.f k a0 a1) (cooperageref1_More.f (k + 1) a0 a1) := by
  intro a0 a1 k
  obtain ⟨ih0, ih1⟩ := cooperageref1_More.mono_l k
  unfold cooperageref1_More.f
  repeat' first
      | (with_reducible exact LeO.refl _)
      | (with_reducible exact LeO.none _)
      | (with_reducible refine LeO.ite ?_ ?_)
      | (with_reducible refine LeO.bind ?_ (fun _ => ?_))
      | exact ih0 _ _ _
      | exact ih1 _ _ _ _
      | exact LeO.none _
      | refine LeO.ite ?_ ?_
      | refine LeO.bind ?_ (fun _ => ?_)
set_option maxHeartbeats 8000000 in
set_option maxRecDepth 100000 in
theorem cooperageref1_More.calls (k : Nat) (a0 : Int) (A1 : Option Addr) (c1 : Nat) (l1 : List Int) (r : Int) (w : World) (hr1 : Kd.C (Kd.int .u8) w A1 l1.length l1) (hc1 : l1.length ≤ c1) (h : cooperageref1_More.f k a0 l1 = some r) :
    Calls Try.prog 69 #[.int .u32 a0, .slice A1 l1.length c1] w fun e w' => e = .returned (.int .u32 r) ∧ Drawn0 w w' := by
  have HR1 := Aside0.mk hr1
  have HC1 := Aside0.mk hc1
  clear hr1 hc1
  have H : (cooperageref1_More.l0 k l1 (Go.bits .xor .u32 4294967295 a0) 0) = some r := h
  clear h
  have H' := Aside0.mk H
  clear H
  go_enter Try.func69, Try.ntmps69
  go_wp2
  go_loopg [5, 6] k (fun kq v5 v6 w' => ∃ (x5_1 : Int) (x6_1 : Int), v5 = .int .u32 x5_1 ∧ v6 = .int .i64 x6_1 ∧ Aside0 (cooperageref1_More.l0 kq l1 x5_1 x6_1 = some r) ∧ Aside0 (kq ≤ k) ∧ Drawn0 w w')
  case atStart => exact ⟨(Go.bits .xor .u32 4294967295 a0), (0), (by first | rfl | (simp; done) | (simp [*]; done)), (by first | rfl | (simp; done) | (simp [*]; done)), H', ⟨Nat.le_refl _⟩, by repeat (first | exact Drawn0.refl _ | apply Drawn0.step)⟩
  case round =>
    clear H'
    try clear c1
    try clear p2
    obtain ⟨x5_1, x6_1, rfl, rfl, HA, HK1, ⟨m1, rfl⟩⟩ := hrel
    cases gk with
    | zero => exact absurd HA.out (by simp [cooperageref1_More.l0])
    | succ k1 =>
      have H := HA.out
      clear HA
      simp only [cooperageref1_More.l0] at H
      by_cases c3 : x6_1 < (l1.length : Int)
      · rw [if_pos c3] at H
        have c3b0 : decide (x6_1 < (l1.length : Int)) = true := decide_eq_true c3
        clear c3
        by_cases c4 : 0 ≤ x6_1
        · rw [if_pos c4] at H
          have c4b0 : decide (0 ≤ x6_1) = true := decide_eq_true c4
          clear c4
          have H' := Aside0.mk H
          clear H
          have p231 : 0 ≤ (x6_1 : Int) := of_decide_eq_true (by first | (with_reducible assumption) | assumption)
          have q231 : x6_1 < (l1.length : Int) := of_decide_eq_true (by first | (with_reducible assumption) | assumption)
          obtain ⟨ad231, e231, hx231_0⟩ := Kd.at_int HR1.out x6_1 p231 q231
          cases e231
          replace p231 := eq_true p231
          replace q231 := eq_true q231
          go_wp2
          go_loopg [5, 7] k1 (fun kq v5 v7 w' => ∃ (x5_2 : Int) (x7_2 : Int), v5 = .int .u32 x5_2 ∧ v7 = .int .i64 x7_2 ∧ Aside0 (cooperageref1_More.l1 kq l1 x5_2 x6_1 x7_2 = some r) ∧ Aside0 (kq ≤ k1) ∧ Drawn0 w w')
          case atStart => exact ⟨(Go.bits .xor .u32 x5_1 ((rd l1 x6_1) % 4294967296)), (0), (by first | rfl | (simp; done) | (simp [*]; done)), (by first | rfl | (simp; done) | (simp [*]; done)), H', ⟨Nat.le_refl _⟩, by repeat (first | exact Drawn0.refl _ | apply Drawn0.step)⟩
          case round =>
            clear H'
            try clear c1
            try clear p2
            try clear q2
            try clear hx2
            try clear c3
            try clear c3b0
            try clear c4
            try clear c4b0
            try clear hx231_0
            try clear p2
            try clear p231
            try clear q231
            obtain ⟨x5_2, x7_2, rfl, rfl, HA, HK2, ⟨m2, rfl⟩⟩ := hrel
            cases gk with
            | zero => exact absurd HA.out (by simp [cooperageref1_More.l1])
            | succ k2 =>
              have H := HA.out
              clear HA
              simp only [cooperageref1_More.l1] at H
              by_cases c5 : x7_2 < 8
              · rw [if_pos c5] at H
                have c5b0 : decide (x7_2 < 8) = true := decide_eq_true c5
                clear c5
                by_cases c6 : (Go.bits .and .u32 x5_2 1) = 1
                · rw [if_pos c6] at H
                  have c6b0 : ((Go.bits .and .u32 x5_2 1) == 1) = true := beq_iff_eq.mpr c6
                  have c6b1 : ((Go.bits .and .u32 x5_2 1) != 1) = false := bne_eq_false_iff_eq.mpr c6
                  clear c6
                  have H' := Aside0.mk H
                  clear H
                  go_wp2
                  go_roundg k2
                  case measure => have := HK1.out; have := HK2.out; omega
                  case rel => exact ⟨(Go.bits .xor .u32 (x5_2 / 2) 3988292384), (wrap64 (x7_2 + 1)), (by first | rfl | (simp; done) | (simp [*]; done)), (by first | rfl | (simp; done) | (simp [*]; done)), H', ⟨by have := HK1.out; have := HK2.out; omega⟩, by repeat (first | exact Drawn0.refl _ | apply Drawn0.step)⟩
                · rw [if_neg c6] at H
                  have c6b0 : ((Go.bits .and .u32 x5_2 1) == 1) = false := beq_eq_false_iff_ne.mpr c6
                  have c6b1 : ((Go.bits .and .u32 x5_2 1) != 1) = true := bne_iff_ne.mpr c6
                  have H' := Aside0.mk H
                  clear H
                  go_wp2
                  go_roundg k2
                  case measure => have := HK1.out; have := HK2.out; omega
                  case rel => exact ⟨(x5_2 / 2), (wrap64 (x7_2 + 1)), (by first | rfl | (simp; done) | (simp [*]; done)), (by first | rfl | (simp; done) | (simp [*]; done)), H', ⟨by have := HK1.out; have := HK2.out; omega⟩, by repeat (first | exact Drawn0.refl _ | apply Drawn0.step)⟩
              · rw [if_neg c5] at H
                have c5b0 : decide (x7_2 < 8) = false := decide_eq_false c5
                clear c5
                have H' := Aside0.mk H
                clear H
                go_wp2
                go_roundg k2
                case measure => have := HK1.out; have := HK2.out; omega
                case rel => exact ⟨(x5_2), (wrap64 (x6_1 + 1)), (by first | rfl | (simp; done) | (simp [*]; done)), (by first | rfl | (simp; done) | (simp [*]; done)), H', ⟨by have := HK1.out; have := HK2.out; omega⟩, by repeat (first | exact Drawn0.refl _ | apply Drawn0.step)⟩
        · rw [if_neg c4] at H
          exact absurd H (by simp)
      · rw [if_neg c3] at H
        have c3b0 : decide (x6_1 < (l1.length : Int)) = false := decide_eq_false c3
        clear c3
        obtain rfl := Option.some.inj H
        go_wp2
        go_ret
        exact ⟨by first | rfl | (simp; done) | (simp [*]; done), by repeat (first | exact Drawn0.refl _ | apply Drawn0.step)⟩

/-! ### cooperageref1_Sum: function 54 -/
def cooperageref1_Sum.f (k : Nat) (l0 : List Int) : Option (Int) := (cooperageref1_More.f k 0 l0).bind fun t232 => (some t232)
theorem cooperageref1_Sum.mono : ∀ a0 k, LeO (cooperageref1_Sum.f k a0) (cooperageref1_Sum.f (k + 1) a0) := by
  intro a0 k
  unfold cooperageref1_Sum.f
  repeat' first
      | (with_reducible exact LeO.refl _)
      | (with_reducible exact LeO.none _)
      | (with_reducible refine LeO.ite ?_ ?_)
      | (with_reducible refine LeO.bind ?_ (fun _ => ?_))
      | exact cooperageref1_More.mono _ _ _
      | exact LeO.none _
      | refine LeO.ite ?_ ?_
      | refine LeO.bind ?_ (fun _ => ?_)
set_option maxHeartbeats 8000000 in
set_option maxRecDepth 100000 in
theorem cooperageref1_Sum.calls (k : Nat) (A0 : Option Addr) (c0 : Nat) (l0 : List Int) (r : Int) (w : World) (hr0 : Kd.C (Kd.int .u8) w A0 l0.length l0) (hc0 : l0.length ≤ c0) (h : cooperageref1_Sum.f k l0 = some r) :
    Calls Try.prog 54 #[.slice A0 l0.length c0] w fun e w' => e = .returned (.int .u32 r) ∧ Drawn0 w w' := by
  have HR0 := Aside0.mk hr0
  have HC0 := Aside0.mk hc0
  clear hr0 hc0
  have H : ((cooperageref1_More.f k 0 l0).bind fun t232 => (some t232)) = some r := h
  clear h
  replace H := Option.bind_eq_some_iff.mp H
  obtain ⟨t232, A20, H⟩ := H
  replace H : (some t232) = some r := H
  have A2 := Aside0.mk A20
  clear A20
  obtain rfl := Option.some.inj H
  go_enter Try.func54, Try.ntmps54
  go_wp2_with (first | ((with_reducible refine gate_callee (f := 69) rfl ?_); refine goesL_ (some 4) rfl rfl Try.func69 (by kernel_rfl) rfl #[.int .u32 0, .slice A0 l0.length c0] rfl (by (try simp only [List.map_toArray, List.map_cons, List.map_nil]); first | done | rfl | (simp only [List.length_drop, List.length_take]; rfl)) ?_; (with_reducible refine (cooperageref1_More.calls k 0 _ _ l0 t232 _ ?side1 ?side2 A2.out).mono ?_); (case side1 => repeat (first | exact HR0.out | (with_reducible refine Kd.C_alloc ?_ _) | (with_reducible refine Kd.C_drewN ?_ _) | (with_reducible refine Kd.C_drew ?_))); (case side2 => exact HC0.out); rintro e w' ⟨rfl, ⟨nd, rfl⟩⟩; refine ⟨_, rfl, ?_⟩))
  go_ret
  exact ⟨by first | rfl | (simp; done) | (simp [*]; done), by repeat (first | exact Drawn0.refl _ | apply Drawn0.step)⟩

/-! ### cooperageref1_PutFrame: function 37 -/
def cooperageref1_PutFrame.f (k : Nat) (l0 : List Int) (l1 : List Int) : Option (List Int) := (cooperageref1_Put.f k l0 (IntKind.u64.wrap ((l1.length : Int)))).bind fun t233 => ((cooperageref1_Sum.f k l1).bind fun t236 => ((some (([(t236 / 16777216) % 256, (t236 / 65536) % 256, (t236 / 256) % 256, (t236) % 256] : List Int) : List Int)).bind fun y237 => (if t233.length + y237.length < 140737488355328 then ((some (t233 ++ y237 : List Int)).bind fun y240 => (if y240.length + l1.length < 140737488355328 then (some (y240 ++ l1)) else (none))) else (none))))
theorem cooperageref1_PutFrame.mono : ∀ a0 a1 k, LeO (cooperageref1_PutFrame.f k a0 a1) (cooperageref1_PutFrame.f (k + 1) a0 a1) := by
  intro a0 a1 k
  unfold cooperageref1_PutFrame.f
  repeat' first
      | (with_reducible exact LeO.refl _)
      | (with_reducible exact LeO.none _)
      | (with_reducible refine LeO.ite ?_ ?_)
      | (with_reducible refine LeO.bind ?_ (fun _ => ?_))
      | exact cooperageref1_Put.mono _ _ _
      | exact cooperageref1_Sum.mono _ _
      | exact LeO.none _
      | refine LeO.ite ?_ ?_
      | refine LeO.bind ?_ (fun _ => ?_)
set_option maxHeartbeats 8000000 in
set_option maxRecDepth 100000 in
theorem cooperageref1_PutFrame.calls (k : Nat) (A0 : Option Addr) (c0 : Nat) (l0 : List Int) (A1 : Option Addr) (c1 : Nat) (l1 : List Int) (r : List Int) (w : World) (hr0 : Kd.C (Kd.int .u8) w A0 l0.length l0) (hc0 : l0.length ≤ c0) (hr1 : Kd.C (Kd.int .u8) w A1 l1.length l1) (hc1 : l1.length ≤ c1) (h : cooperageref1_PutFrame.f k l0 l1 = some r) :
    Calls Try.prog 37 #[.slice A0 l0.length c0, .slice A1 l1.length c1] w fun e w' => ∃ v0_ : Value, e = .returned (v0_) ∧ Kd.R (Kd.int .u8) 5 w' w.heap.size (fun _ => True) v0_ r ∧ Below w.heap.size w w' := by
  have HR0 := Aside0.mk hr0
  have HC0 := Aside0.mk hc0
  clear hr0 hc0
  have HR1 := Aside0.mk hr1
  have HC1 := Aside0.mk hc1
  clear hr1 hc1
  have HB := Aside0.mk (Below.refl w.heap.size w)
  have H : ((cooperageref1_Put.f k l0 (IntKind.u64.wrap ((l1.length : Int)))).bind fun t233 => ((cooperageref1_Sum.f k l1).bind fun t236 => ((some (([(t236 / 16777216) % 256, (t236 / 65536) % 256, (t236 / 256) % 256, (t236) % 256] : List Int) : List Int)).bind fun y237 => (if t233.length + y237.length < 140737488355328 then ((some (t233 ++ y237 : List Int)).bind fun y240 => (if y240.length + l1.length < 140737488355328 then (some (y240 ++ l1)) else (none))) else (none))))) = some r := h
  clear h
  replace H := Option.bind_eq_some_iff.mp H
  obtain ⟨t233, A30, H⟩ := H
  replace H : ((cooperageref1_Sum.f k l1).bind fun t236 => ((some (([(t236 / 16777216) % 256, (t236 / 65536) % 256, (t236 / 256) % 256, (t236) % 256] : List Int) : List Int)).bind fun y237 => (if t233.length + y237.length < 140737488355328 then ((some (t233 ++ y237 : List Int)).bind fun y240 => (if y240.length + l1.length < 140737488355328 then (some (y240 ++ l1)) else (none))) else (none)))) = some r := H
  have A3 := Aside0.mk A30
  clear A30
  replace H := Option.bind_eq_some_iff.mp H
  obtain ⟨t236, A40, H⟩ := H
  replace H : ((some (([(t236 / 16777216) % 256, (t236 / 65536) % 256, (t236 / 256) % 256, (t236) % 256] : List Int) : List Int)).bind fun y237 => (if t233.length + y237.length < 140737488355328 then ((some (t233 ++ y237 : List Int)).bind fun y240 => (if y240.length + l1.length < 140737488355328 then (some (y240 ++ l1)) else (none))) else (none))) = some r := H
  have A4 := Aside0.mk A40
  clear A40
  obtain ⟨y237, hy237⟩ : ∃ y_ : List Int, y_ = (([(t236 / 16777216) % 256, (t236 / 65536) % 256, (t236 / 256) % 256, (t236) % 256] : List Int)) := ⟨_, rfl⟩
  replace H : (if t233.length + y237.length < 140737488355328 then ((some (t233 ++ y237 : List Int)).bind fun y240 => (if y240.length + l1.length < 140737488355328 then (some (y240 ++ l1)) else (none))) else (none)) = some r := by first | (rw [hy237]; with_reducible exact H) | (have H2_ := (Option.bind_some _ _).symm.trans H; rw [hy237]; with_reducible exact H2_) | (have H2_ := (Option.bind_some _ _).symm.trans H; with_reducible exact H2_) | with_reducible exact H | (rw [hy237]; exact H) | exact H
  have Ny237 := Aside0.mk hy237
  clear hy237
  by_cases c5 : t233.length + y237.length < 140737488355328
  · rw [if_pos c5] at H
    have LMc5 := Aside0.mk c5
    clear c5
    obtain ⟨y240, hy240⟩ : ∃ y_ : List Int, y_ = (t233 ++ y237) := ⟨_, rfl⟩
    replace H : (if y240.length + l1.length < 140737488355328 then (some (y240 ++ l1)) else (none)) = some r := by first | (rw [hy240]; with_reducible exact H) | (have H2_ := (Option.bind_some _ _).symm.trans H; rw [hy240]; with_reducible exact H2_) | (have H2_ := (Option.bind_some _ _).symm.trans H; with_reducible exact H2_) | with_reducible exact H | (rw [hy240]; exact H) | exact H
    have Ny240 := Aside0.mk hy240
    clear hy240
    by_cases c6 : y240.length + l1.length < 140737488355328
    · rw [if_pos c6] at H
      have LMc6 := Aside0.mk c6
      clear c6
      obtain ⟨y243, hy243⟩ : ∃ y_ : List Int, y_ = (y240 ++ l1) := ⟨_, rfl⟩
      replace H : (some y243) = some r := by first | (rw [hy243]; with_reducible exact H) | (have H2_ := (Option.bind_some _ _).symm.trans H; rw [hy243]; with_reducible exact H2_) | (have H2_ := (Option.bind_some _ _).symm.trans H; with_reducible exact H2_) | with_reducible exact H | (rw [hy243]; exact H) | exact H
      have Ny243 := Aside0.mk hy243
      clear hy243
      obtain rfl := Option.some.inj H
      go_enter Try.func37, Try.ntmps37
      go_wp2_with (first | ((with_reducible refine gate_callee (f := 53) rfl ?_); refine goesL_ (some 10) rfl rfl Try.func53 (by kernel_rfl) rfl #[.slice A0 l0.length c0, .int .u64 (IntKind.u64.wrap ((l1.length : Int)))] rfl (by (try simp only [List.map_toArray, List.map_cons, List.map_nil]); first | done | rfl | (simp only [List.length_drop, List.length_take]; rfl)) ?_; (with_reducible refine (cooperageref1_Put.calls k _ _ l0 (IntKind.u64.wrap ((l1.length : Int))) t233 _ ?side1 ?side2 A3.out).mono ?_); (case side1 => repeat (first | exact HR0.out | (with_reducible refine Kd.C_alloc ?_ _) | (with_reducible refine Kd.C_drewN ?_ _) | (with_reducible refine Kd.C_drew ?_))); (case side2 => exact HC0.out); rintro e w7 ⟨v234, rfl, ho0, hb⟩; refine ⟨_, rfl, ?_⟩; have n0_ := Aside0.mk (Kd.RL ho0 (vZ (by repeat (first | (with_reducible first | exact HB.out | apply vA | apply vN | apply vD) | exact HB.out)))); have n1_ := Aside0.mk (vT (by repeat (first | (with_reducible first | exact HB.out | apply vA | apply vN | apply vD) | exact HB.out)) hb); clear HB; have HO235 := n0_; have HB := n1_; clear n0_ n1_; (try clear hb); (try clear hb2); (try clear hk); (try clear hi); (try clear ho0)) | ((with_reducible refine gate_callee (f := 54) rfl ?_); refine goesL_ (some 12) rfl rfl Try.func54 (by kernel_rfl) rfl #[.slice A1 l1.length c1] rfl (by (try simp only [List.map_toArray, List.map_cons, List.map_nil]); first | done | rfl | (simp only [List.length_drop, List.length_take]; rfl)) ?_; (with_reducible refine (cooperageref1_Sum.calls k _ _ l1 t236 _ ?side1 ?side2 A4.out).mono ?_); (case side1 => repeat (first | exact (Kd.C_below HR1.out HB.out) | (with_reducible refine Kd.C_alloc ?_ _) | (with_reducible refine Kd.C_drewN ?_ _) | (with_reducible refine Kd.C_drew ?_))); (case side2 => exact HC1.out); rintro e w' ⟨rfl, ⟨nd, rfl⟩⟩; refine ⟨_, rfl, ?_⟩) | ((with_reducible refine gate_dst (N := 25) rfl ?_); refine Kd.R_lit (Kd.int .u8) _ 5 ?hg (N := 25) ?hd (xs := ([(t236 / 16777216) % 256, (t236 / 65536) % 256, (t236 / 256) % 256, (t236) % 256] : List Int)) (inner := [.int .u8 ((t236 / 16777216) % 256), .int .u8 ((t236 / 65536) % 256), .int .u8 ((t236 / 256) % 256), .int .u8 ((t236) % 256)]) (ok := fun _ => True) (okp := fun _ => True) ?hr ?hp (fun _ hk => hk) trivial (Below.refl _ _) (Nat.le_refl _) (by simp) ?_; (case hd => rfl); (case hg => rfl); (case hr => first | (go_simp; done) | (go_simp; rfl)); (case hp => exact (Reps.one (show Kd.M (Kd.int .u8) _ _ _ ((t236 / 16777216) % 256) [.int .u8 ((t236 / 16777216) % 256)] from rfl) (Reps.one (show Kd.M (Kd.int .u8) _ _ _ ((t236 / 65536) % 256) [.int .u8 ((t236 / 65536) % 256)] from rfl) (Reps.one (show Kd.M (Kd.int .u8) _ _ _ ((t236 / 256) % 256) [.int .u8 ((t236 / 256) % 256)] from rfl) (Reps.one (show Kd.M (Kd.int .u8) _ _ _ ((t236) % 256) [.int .u8 ((t236) % 256)] from rfl) (Reps.none _ _)))))); intro v238 w8 ho9 hb hg_ hnew_; clear hg_ hnew_; (first | rw [← Ny237.out] at ho9 | (simp only [Int.reduceToNat] at ho9; rw [← Ny237.out] at ho9)); have n0_ := Aside0.mk (Kd.R_elder' (by (with_reducible repeat (first | apply Kd.RA | apply Kd.RN | apply Kd.RD)); exact HO235.out) (Kd.R_base ho9) hb); have n1_ := Aside0.mk (Kd.RL (Kd.R_new' ho9 (Kd.R_lt (by (with_reducible repeat (first | apply Kd.RA | apply Kd.RN | apply Kd.RD)); exact HO235.out))) (vZ (by repeat (first | (with_reducible first | exact HB.out | apply vA | apply vN | apply vD) | exact HB.out)))); have n2_ := Aside0.mk (vT (by repeat (first | (with_reducible first | exact HB.out | apply vA | apply vN | apply vD) | exact HB.out)) hb); clear HO235; clear HB; have HO235 := n0_; have HO239 := n1_; have HB := n2_; clear n0_ n1_ n2_; clear hb ho9; obtain ⟨Ao11, co11, eo11⟩ := Kd.R_slice HO239.out; subst eo11) | ((with_reducible refine gate_builtin (b := .append) (xs := #[(.tmp 13), .tmp 25]) rfl ?_); at_builtin; refine Kd.R_append_rows (Kd.int .u8) (w0 := w) w.heap.size rfl (.tmp 13) (.tmp 25) 37 5 (.int .u8 0) 1 rfl Try.underlying37 info5 rfl (by decide) (by omega) v234 t233 y237 _ _ _ (fun k_ => some k_ ≠ (.slice Ao11 y237.length co11 : Value).ownBlock) (fun _ => False) rfl rfl ?aO ?aR (fun _ _ h => h) (fun _ h => h.elim) ?aF ?aB ?aS ?aL ?_; (case aR => repeat (first | exact (Kd.R_reads' HO239.out).2.2 | (with_reducible refine Kd.C_alloc ?_ _) | (with_reducible refine Kd.C_drewN ?_ _) | (with_reducible refine Kd.C_drew ?_))); (case aB => exact (by repeat (first | (with_reducible first | exact HB.out | apply vA | apply vN | apply vD) | exact HB.out))); (case aF => exact (fun k_ hk => Kd.fresh' (Kd.R_lt (by (with_reducible repeat (first | apply Kd.RA | apply Kd.RN | apply Kd.RD)); exact HO239.out)) k_ hk)); (case aO => exact (by (with_reducible repeat (first | apply Kd.RA | apply Kd.RN | apply Kd.RD)); exact Kd.RM HO235.out (fun _ hk => hk.2))); (case aS => exact (vZ (by repeat (first | (with_reducible first | exact HB.out | apply vA | apply vN | apply vD) | exact HB.out)))); (case aL => have := LMc5.out; omega); intro v241 w10 ho hb hg hat; rw [← Ny240.out] at ho; have n0_ := Aside0.mk (Kd.R_after (ok := (fun _ => True)) (by (with_reducible repeat (first | apply Kd.RA | apply Kd.RN | apply Kd.RD)); exact HO239.out) hg hat); have n1_ := Aside0.mk (hb); have n2_ := Aside0.mk (ho); clear HO239; clear HB; clear HO235; have HO239 := n0_; have HB := n1_; have HO242 := n2_; clear n0_ n1_ n2_; clear ho hb hg hat) | ((with_reducible refine gate_builtin (b := .append) (xs := #[(.tmp 27), .tmp 28]) rfl ?_); at_builtin; refine Kd.R_append_rows (Kd.int .u8) (w0 := w) w.heap.size rfl (.tmp 27) (.tmp 28) 37 5 (.int .u8 0) 1 rfl Try.underlying37 info5 rfl (by decide) (by omega) v241 y240 l1 _ _ _ (fun k_ => some k_ ≠ (.slice Ao11 y237.length co11 : Value).ownBlock) (fun _ => False) rfl rfl ?aO ?aR (fun _ _ h => h) (fun _ h => h.elim) ?aF ?aB ?aS ?aL ?_; (case aR => repeat (first | exact (Kd.C_below HR1.out HB.out) | (with_reducible refine Kd.C_alloc ?_ _) | (with_reducible refine Kd.C_drewN ?_ _) | (with_reducible refine Kd.C_drew ?_))); (case aB => exact (by repeat (first | (with_reducible first | exact HB.out | apply vA | apply vN | apply vD) | exact HB.out))); (case aF => exact (fun k_ hk => Kd.fresh' (Kd.R_lt (by (with_reducible repeat (first | apply Kd.RA | apply Kd.RN | apply Kd.RD)); exact HO239.out)) k_ hk)); (case aO => exact (by (with_reducible repeat (first | apply Kd.RA | apply Kd.RN | apply Kd.RD)); exact HO242.out)); (case aS => exact (vZ (by repeat (first | (with_reducible first | exact HB.out | apply vA | apply vN | apply vD) | exact HB.out)))); (case aL => have := LMc6.out; omega); intro v244 w12 ho hb hg hat; rw [← Ny243.out] at ho; have n0_ := Aside0.mk (Kd.R_after (ok := (fun _ => True)) (by (with_reducible repeat (first | apply Kd.RA | apply Kd.RN | apply Kd.RD)); exact HO239.out) hg hat); have n1_ := Aside0.mk (hb); have n2_ := Aside0.mk (ho); clear HO239; clear HB; clear HO242; have HO239 := n0_; have HB := n1_; have HO245 := n2_; clear n0_ n1_ n2_; clear ho hb hg hat))
      go_ret
      exact ⟨_, by first | rfl | (simp [*, eN, eS] <;> rfl) | (simp [eN, eS]; generalize ByteArray.toList _ = l_; cases l_ <;> rfl), by (with_reducible repeat (first | apply Kd.RA | apply Kd.RN | apply Kd.RD)); exact Kd.RM HO245.out (fun _ hk => trivial), by repeat (first | (with_reducible first | exact HB.out | apply vA | apply vN | apply vD) | exact HB.out)⟩
    · rw [if_neg c6] at H
      exact absurd H (by simp)
  · rw [if_neg c5] at H
    exact absurd H (by simp)

/-! ### cooperageref1_Fold: function 55 -/
def cooperageref1_Fold.f (a0 : Int) : Option (Int) := if a0 < 0 then (some (IntKind.u64.wrap ((IntKind.u64.wrap ((IntKind.u64.wrap (wrap64 (-(wrap64 (a0 + 1))))) * 2)) + 1))) else (some (IntKind.u64.wrap ((IntKind.u64.wrap (a0)) * 2)))
set_option maxHeartbeats 8000000 in
set_option maxRecDepth 100000 in
theorem cooperageref1_Fold.calls (a0 : Int) (r : Int) (w : World) (h : cooperageref1_Fold.f a0 = some r) :
    Calls Try.prog 55 #[.int .i64 a0] w fun e w' => e = .returned (.int .u64 r) ∧ Drawn0 w w' := by
  have H : (if a0 < 0 then (some (IntKind.u64.wrap ((IntKind.u64.wrap ((IntKind.u64.wrap (wrap64 (-(wrap64 (a0 + 1))))) * 2)) + 1))) else (some (IntKind.u64.wrap ((IntKind.u64.wrap (a0)) * 2)))) = some r := h
  clear h
  by_cases c2 : a0 < 0
  · rw [if_pos c2] at H
    have c2b0 : decide (a0 < 0) = true := decide_eq_true c2
    clear c2
    obtain rfl := Option.some.inj H
    go_enter Try.func55, Try.ntmps55
    go_wp2
    go_ret
    exact ⟨by first | rfl | (simp; done) | (simp [*]; done), by repeat (first | exact Drawn0.refl _ | apply Drawn0.step)⟩
  · rw [if_neg c2] at H
    have c2b0 : decide (a0 < 0) = false := decide_eq_false c2
    clear c2
    obtain rfl := Option.some.inj H
    go_enter Try.func55, Try.ntmps55
    go_wp2
    go_ret
    exact ⟨by first | rfl | (simp; done) | (simp [*]; done), by repeat (first | exact Drawn0.refl _ | apply Drawn0.step)⟩

end Go.Proofs.Ytphnolgneojdhaa.V

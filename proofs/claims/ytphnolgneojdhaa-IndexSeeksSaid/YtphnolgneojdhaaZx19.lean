-- printed by a program of this session (a changed copy of the kit's printer; squeeze.py)
import Derived.Test.YtphnolgneojdhaaZx0
import Derived.Test.YtphnolgneojdhaaZx17
import Derived.Test.YtphnolgneojdhaaZx18
namespace Go.Proofs.Ytphnolgneojdhaa.Z
open Go.RowKit Go.Proofs.YtphnolgneojdhaaW.PrintWords Go.Proofs.YtphnolgneojdhaaW.PrintLast Go.Proofs.YtphnolgneojdhaaW.PrintMore
attribute [local go_sem] max2_int min2_int max_two min_two max_three min_three max_four min_four   -- for this text's walks alone
set_option linter.unusedVariables false
set_option linter.unusedSimpArgs false
/-! ### cooperageref1_FindTime: function 31 -/
def cooperageref1_FindTime.l0 : Nat → Int → List (S34) → Int → Option (Int × Int × ByteArray × ByteArray × Bool × Bool)
  | 0, _, _, _ => none
  | k + 1, x2, x8, x9 => if x9 < (x8.length : Int) then (if 0 ≤ x9 then (if ((rd_T34 x8 x9).f1) ≥ x2 then (some ((rd_T34 x8 x9).f0, (rd_T34 x8 x9).f1, (rd_T34 x8 x9).f2, (rd_T34 x8 x9).f3, (rd_T34 x8 x9).f4, true)) else (cooperageref1_FindTime.l0 k x2 x8 (wrap64 (x9 + 1)))) else (none)) else (some (0, 0, (⟨#[]⟩ : ByteArray), (⟨#[]⟩ : ByteArray), false, false))
def cooperageref1_FindTime.f (k : Nat) (l0 : List Int) (l1 : List (S31)) (a2 : Int) : Option (Int × Int × ByteArray × ByteArray × Bool × Bool) := (cooperageref1_SeekTime.f k l1 a2).bind fun t623 => ((cooperageref1_behind.f k l0 t623).bind fun t624 => (cooperageref1_FindTime.l0 k a2 t624 0))
theorem cooperageref1_FindTime.mono_l : ∀ k, (∀ y0 y1 y2, LeO (cooperageref1_FindTime.l0 k y0 y1 y2) (cooperageref1_FindTime.l0 (k + 1) y0 y1 y2))
  | 0 => fun _ _ _ r h => by simp [cooperageref1_FindTime.l0] at h
  | k + 1 => by
    have ih0 := cooperageref1_FindTime.mono_l k
    · intro y0 y1 y2
      unfold cooperageref1_FindTime.l0
      repeat' first
      | (with_reducible exact LeO.refl _)
      | (with_reducible exact LeO.none _)
      | (with_reducible refine LeO.ite ?_ ?_)
      | (with_reducible refine LeO.bind ?_ (fun _ => ?_))
      | exact ih0 _ _ _
      | exact cooperageref1_SeekTime.mono _ _ _
      | exact cooperageref1_behind.mono _ _ _
      | exact LeO.none _
      | refine LeO.ite ?_ ?_
      | refine LeO.bind ?_ (fun _ => ?_)
theorem cooperageref1_FindTime.mono : ∀ a0 a1 a2 k, LeO (cooperageref1_FindTime.f k a0 a1 a2) (cooperageref1_FindTime.f (k + 1) a0 a1 a2) := by
  intro a0 a1 a2 k
  have ih0 := cooperageref1_FindTime.mono_l k
  unfold cooperageref1_FindTime.f
  repeat' first
      | (with_reducible exact LeO.refl _)
      | (with_reducible exact LeO.none _)
      | (with_reducible refine LeO.ite ?_ ?_)
      | (with_reducible refine LeO.bind ?_ (fun _ => ?_))
      | exact ih0 _ _ _
      | exact cooperageref1_SeekTime.mono _ _ _
      | exact cooperageref1_behind.mono _ _ _
      | exact LeO.none _
      | refine LeO.ite ?_ ?_
      | refine LeO.bind ?_ (fun _ => ?_)
set_option maxHeartbeats 8000000 in
set_option maxRecDepth 100000 in
theorem cooperageref1_FindTime.calls (k : Nat) (A0 : Option Addr) (c0 : Nat) (l0 : List Int) (A1 : Option Addr) (c1 : Nat) (l1 : List (S31)) (a2 : Int) (r1 : Int) (r2 : Int) (r3 : ByteArray) (r4 : ByteArray) (r5 : Bool) (r6 : Bool) (w : World) (hr0 : Kd.C (Kd.int .u8) w A0 l0.length l0) (hc0 : l0.length ≤ c0) (hr1 : Kd.C k31 w A1 l1.length l1) (hc1 : l1.length ≤ c1) (h : cooperageref1_FindTime.f k l0 l1 a2 = some (r1, r2, r3, r4, r5, r6)) :
    Calls Try.prog 31 #[.slice A0 l0.length c0, .slice A1 l1.length c1, .int .i64 a2] w fun e w' => e = .returned (.tuple #[.agg #[.int .i64 r1, .int .i64 r2, .string r3, .string r4, .bool r5], .bool r6]) ∧ Below w.heap.size w w' := by
  have hu34 := Try.underlying34
  have HR0 := Aside0.mk hr0
  have HC0 := Aside0.mk hc0
  clear hr0 hc0
  have HR1 := Aside0.mk hr1
  have HC1 := Aside0.mk hc1
  clear hr1 hc1
  have HB := Aside0.mk (Below.refl w.heap.size w)
  have H : ((cooperageref1_SeekTime.f k l1 a2).bind fun t623 => ((cooperageref1_behind.f k l0 t623).bind fun t624 => (cooperageref1_FindTime.l0 k a2 t624 0))) = some (r1, r2, r3, r4, r5, r6) := h
  clear h
  replace H := Option.bind_eq_some_iff.mp H
  obtain ⟨t623, A40, H⟩ := H
  replace H : ((cooperageref1_behind.f k l0 t623).bind fun t624 => (cooperageref1_FindTime.l0 k a2 t624 0)) = some (r1, r2, r3, r4, r5, r6) := H
  have A4 := Aside0.mk A40
  clear A40
  replace H := Option.bind_eq_some_iff.mp H
  obtain ⟨t624, A50, H⟩ := H
  replace H : (cooperageref1_FindTime.l0 k a2 t624 0) = some (r1, r2, r3, r4, r5, r6) := H
  have A5 := Aside0.mk A50
  clear A50
  have H' := Aside0.mk H
  clear H
  go_enter Try.func31, Try.ntmps31
  go_wp2_with (first | ((with_reducible refine gate_dst (N := 6) rfl ?_); refine box_event ?hg (N := 6) ?hd (cs := #[.int .i64 0, .int .i64 0, .string (⟨#[]⟩ : ByteArray), .string (⟨#[]⟩ : ByteArray), .bool false]) (t := 34) ?hr ?_; (case hd => rfl); (case hg => rfl); (case hr => first | (go_simp; done) | (go_simp; rfl)); intro gb622 hg w6 hbox hb; have n0_ := Aside0.mk (vT (by repeat (first | (with_reducible first | exact HB.out | apply vA | apply vN | apply vD) | exact HB.out)) hb); have n1_ := Aside0.mk (hbox); have n2_ := Aside0.mk ((by rw [hg]; exact (vZ (by repeat (first | (with_reducible first | exact HB.out | apply vA | apply vN | apply vD) | exact HB.out))) : w.heap.size ≤ gb622)); have n3_ := Aside0.mk ((by rw [hg]; exact (vZ (by repeat (first | (with_reducible first | exact HB.out | apply vA | apply vN | apply vD) | exact HB.out))) : w.heap.size ≤ gb622)); clear HB; have HB := n0_; have BK622 := n1_; have GW622 := n2_; have GE622 := n3_; clear n0_ n1_ n2_ n3_; clear hb hbox hg) | ((with_reducible refine gate_callee (f := 35) rfl ?_); refine goesL_ (some 13) rfl rfl Try.func35 (by kernel_rfl) rfl #[.slice A1 l1.length c1, .int .i64 a2] rfl (by (try simp only [List.map_toArray, List.map_cons, List.map_nil]); first | done | rfl | (simp only [List.length_drop, List.length_take]; rfl)) ?_; (with_reducible refine (cooperageref1_SeekTime.calls k _ _ l1 a2 t623 _ ?side1 ?side2 A4.out).mono ?_); (case side1 => repeat (first | exact (Kd.C_below HR1.out HB.out) | (with_reducible refine Kd.C_alloc ?_ _) | (with_reducible refine Kd.C_drewN ?_ _) | (with_reducible refine Kd.C_drew ?_))); (case side2 => exact HC1.out); rintro e w' ⟨rfl, ⟨nd, rfl⟩⟩; refine ⟨_, rfl, ?_⟩) | ((with_reducible refine gate_callee (f := 48) rfl ?_); refine goesL_ (some 14) rfl rfl Try.func48 (by kernel_rfl) rfl #[.slice A0 l0.length c0, .int .i64 t623] rfl (by (try simp only [List.map_toArray, List.map_cons, List.map_nil]); first | done | rfl | (simp only [List.length_drop, List.length_take]; rfl)) ?_; (with_reducible refine (cooperageref1_behind.calls k _ _ l0 t623 t624 _ ?side1 ?side2 A5.out).mono ?_); (case side1 => repeat (first | exact (Kd.C_below HR0.out (by repeat (first | (with_reducible first | exact HB.out | apply vA | apply vN | apply vD | refine vS ?_ GE622.out) | exact HB.out))) | (with_reducible refine Kd.C_alloc ?_ _) | (with_reducible refine Kd.C_drewN ?_ _) | (with_reducible refine Kd.C_drew ?_))); (case side2 => exact HC0.out); rintro e w7 ⟨v625, rfl, ho0, hb⟩; refine ⟨_, rfl, ?_⟩; have n0_ := Aside0.mk (Kd.RL (Kd.R_newB ho0 (g := gb622) (o := .cells #[.int .i64 0, .int .i64 0, .string (⟨#[]⟩ : ByteArray), .string (⟨#[]⟩ : ByteArray), .bool false] 34 (0, 0)) (by (with_reducible repeat (first | refine bN ?_ _ | refine bD ?_ | refine bA ?_ _)); exact BK622.out)) (vZ (by repeat (first | (with_reducible first | exact HB.out | apply vA | apply vN | apply vD | refine vS ?_ GE622.out) | exact HB.out)))); have n1_ := Aside0.mk (bB (g := gb622) (o := .cells #[.int .i64 0, .int .i64 0, .string (⟨#[]⟩ : ByteArray), .string (⟨#[]⟩ : ByteArray), .bool false] 34 (0, 0)) (by (with_reducible repeat (first | refine bN ?_ _ | refine bD ?_ | refine bA ?_ _)); exact BK622.out) hb); have n2_ := Aside0.mk (vT (by repeat (first | (with_reducible first | exact HB.out | apply vA | apply vN | apply vD | refine vS ?_ GE622.out) | exact HB.out)) hb); clear BK622; clear HB; have HO626 := n0_; have BK622 := n1_; have HB := n2_; clear n0_ n1_ n2_; (try clear hb); (try clear hb2); (try clear hk); (try clear hi); (try clear ho0)))
  go_loopg [9] k (fun kq v9 w' => ∃ (x9_1 : Int) (x623000_1 : Int) (x623001_1 : Int) (x623002_1 : ByteArray) (x623003_1 : ByteArray) (x623004_1 : Bool), v9 = .int .i64 x9_1 ∧ Aside0 (cooperageref1_FindTime.l0 kq a2 t624 x9_1 = some (r1, r2, r3, r4, r5, r6)) ∧ Aside0 (kq ≤ k) ∧ Aside0 (Kd.R k34 34 w' w.heap.size (fun k_ => k_ ≠ gb622) v625 t624) ∧ Aside0 (w'.heap[gb622]? = some (.cells #[.int .i64 x623000_1, .int .i64 x623001_1, .string x623002_1, .string x623003_1, .bool x623004_1] 34 (0, 0))) ∧ Aside0 (Below w.heap.size w w'))
  case atStart => exact ⟨(0), (0), (0), ((⟨#[]⟩ : ByteArray)), ((⟨#[]⟩ : ByteArray)), (false), (by first | rfl | (simp; done) | (simp [*]; done)), H', ⟨Nat.le_refl _⟩, ⟨by (with_reducible repeat (first | apply Kd.RA | apply Kd.RN | apply Kd.RD)); exact Kd.RM HO626.out (fun _ hk => hk.2)⟩, ⟨by (with_reducible repeat (first | refine bN ?_ _ | refine bD ?_ | refine bA ?_ _)); exact BK622.out⟩, ⟨by repeat (first | (with_reducible first | exact HB.out | apply vA | apply vN | apply vD | refine vS ?_ GE622.out) | exact HB.out)⟩⟩
  case round =>
    clear H'
    try clear c1
    try clear p2
    try clear c3
    try clear c4
    obtain ⟨x9_1, x623000_1, x623001_1, x623002_1, x623003_1, x623004_1, rfl, HA, HK1, HO_8, BK622, HB⟩ := hrel
    cases gk with
    | zero => exact absurd HA.out (by simp [cooperageref1_FindTime.l0])
    | succ k1 =>
      have H := HA.out
      clear HA
      simp only [cooperageref1_FindTime.l0] at H
      by_cases c8 : x9_1 < (t624.length : Int)
      · rw [if_pos c8] at H
        have c8b0 : decide (x9_1 < (t624.length : Int)) = true := decide_eq_true c8
        clear c8
        by_cases c9 : 0 ≤ x9_1
        · rw [if_pos c9] at H
          have c9b0 : decide (0 ≤ x9_1) = true := decide_eq_true c9
          clear c9
          by_cases c10 : ((rd_T34 t624 x9_1).f1) ≥ a2
          · rw [if_pos c10] at H
            have c10b0 : decide (a2 ≤ ((rd_T34 t624 x9_1).f1)) = true := decide_eq_true c10
            clear c10
            simp only [Option.some.injEq, Prod.mk.injEq] at H
            obtain ⟨rfl, rfl, rfl, rfl, rfl, rfl⟩ := H
            obtain ⟨Ao11, co11, eo11⟩ := Kd.R_slice HO_8.out
            subst eo11
            have p627 : 0 ≤ (x9_1 : Int) := of_decide_eq_true (by first | (with_reducible assumption) | assumption)
            have q627 : x9_1 < (t624.length : Int) := of_decide_eq_true (by first | (with_reducible assumption) | assumption)
            obtain ⟨ad627, e627, hx627_0, hx627_1, hx627_2, hx627_3, hx627_4⟩ := at_T34 (Kd.R_reads' HO_8.out).2.2 x9_1 p627 q627
            cases e627
            replace p627 := eq_true p627
            replace q627 := eq_true q627
            have p628 : 0 ≤ (x9_1 : Int) := of_decide_eq_true (by first | (with_reducible assumption) | assumption)
            have q628 : x9_1 < (t624.length : Int) := of_decide_eq_true (by first | (with_reducible assumption) | assumption)
            obtain ⟨ad628, e628, hx628_0, hx628_1, hx628_2, hx628_3, hx628_4⟩ := at_T34 (Kd.R_reads' HO_8.out).2.2 x9_1 p628 q628
            obtain rfl : ad627 = ad628 := (by injection e628)
            replace p628 := eq_true p628
            replace q628 := eq_true q628
            have hcz12_0 : wr.cell? ⟨gb622, 0, none⟩ = some (.int .i64 x623000_1) := (bC BK622.out 0).trans rfl
            have hcz12_1 : wr.cell? ⟨gb622, 1, none⟩ = some (.int .i64 x623001_1) := (bC BK622.out 1).trans rfl
            have hcz12_2 : wr.cell? ⟨gb622, 2, none⟩ = some (.string x623002_1) := (bC BK622.out 2).trans rfl
            have hcz12_3 : wr.cell? ⟨gb622, 3, none⟩ = some (.string x623003_1) := (bC BK622.out 3).trans rfl
            have hcz12_4 : wr.cell? ⟨gb622, 4, none⟩ = some (.bool x623004_1) := (bC BK622.out 4).trans rfl
            have hfz12_0 := bF BK622.out 0
            have hfz12_1 := bF BK622.out 1
            have hfz12_2 := bF BK622.out 2
            have hfz12_3 := bF BK622.out 3
            have hfz12_4 := bF BK622.out 4
            go_wp2
            refine bodyPost_ret (results_ct rfl _ _ gb622 34 #[.int .i64 ((rd_T34 t624 x9_1).f0), .int .i64 ((rd_T34 t624 x9_1).f1), .string ((rd_T34 t624 x9_1).f2), .string ((rd_T34 t624 x9_1).f3), .bool ((rd_T34 t624 x9_1).f4)] (0, 0) _ rfl (by (with_reducible repeat (first | refine bN ?_ _ | refine bD ?_ | refine bA ?_ _)); refine bP (cs := #[.int .i64 ((rd_T34 t624 x9_1).f0), .int .i64 ((rd_T34 t624 x9_1).f1), .string ((rd_T34 t624 x9_1).f2), .string ((rd_T34 t624 x9_1).f3), .bool x623004_1]) ?_ 4 _ rfl; (with_reducible repeat (first | refine bN ?_ _ | refine bD ?_ | refine bA ?_ _)); refine bP (cs := #[.int .i64 ((rd_T34 t624 x9_1).f0), .int .i64 ((rd_T34 t624 x9_1).f1), .string ((rd_T34 t624 x9_1).f2), .string x623003_1, .bool x623004_1]) ?_ 3 _ rfl; (with_reducible repeat (first | refine bN ?_ _ | refine bD ?_ | refine bA ?_ _)); refine bP (cs := #[.int .i64 ((rd_T34 t624 x9_1).f0), .int .i64 ((rd_T34 t624 x9_1).f1), .string x623002_1, .string x623003_1, .bool x623004_1]) ?_ 2 _ rfl; (with_reducible repeat (first | refine bN ?_ _ | refine bD ?_ | refine bA ?_ _)); refine bP (cs := #[.int .i64 ((rd_T34 t624 x9_1).f0), .int .i64 x623001_1, .string x623002_1, .string x623003_1, .bool x623004_1]) ?_ 1 _ rfl; (with_reducible repeat (first | refine bN ?_ _ | refine bD ?_ | refine bA ?_ _)); refine bP (cs := #[.int .i64 x623000_1, .int .i64 x623001_1, .string x623002_1, .string x623003_1, .bool x623004_1]) ?_ 0 _ rfl; (with_reducible repeat (first | refine bN ?_ _ | refine bD ?_ | refine bA ?_ _)); exact BK622.out) Try.underlying34 rfl (by kernel_rfl)) rfl ?_
            exact ⟨by first | rfl | (simp [*, eN, eS] <;> rfl) | (simp [eN, eS]; generalize ByteArray.toList _ = l_; cases l_ <;> rfl), by repeat (first | (with_reducible first | exact HB.out | apply vA | apply vN | apply vD | refine vS ?_ GE622.out) | exact HB.out)⟩
          · rw [if_neg c10] at H
            have c10b0 : decide (a2 ≤ ((rd_T34 t624 x9_1).f1)) = false := decide_eq_false c10
            clear c10
            have H' := Aside0.mk H
            clear H
            obtain ⟨Ao13, co13, eo13⟩ := Kd.R_slice HO_8.out
            subst eo13
            have p627 : 0 ≤ (x9_1 : Int) := of_decide_eq_true (by first | (with_reducible assumption) | assumption)
            have q627 : x9_1 < (t624.length : Int) := of_decide_eq_true (by first | (with_reducible assumption) | assumption)
            obtain ⟨ad627, e627, hx627_0, hx627_1, hx627_2, hx627_3, hx627_4⟩ := at_T34 (Kd.R_reads' HO_8.out).2.2 x9_1 p627 q627
            cases e627
            replace p627 := eq_true p627
            replace q627 := eq_true q627
            go_wp2
            go_roundg k1
            case measure => have := HK1.out; omega
            case rel => exact ⟨(wrap64 (x9_1 + 1)), (x623000_1), (x623001_1), (x623002_1), (x623003_1), (x623004_1), (by first | rfl | (simp; done) | (simp [*]; done)), H', ⟨by have := HK1.out; omega⟩, ⟨by (with_reducible repeat (first | apply Kd.RA | apply Kd.RN | apply Kd.RD)); exact HO_8.out⟩, ⟨by (with_reducible repeat (first | refine bN ?_ _ | refine bD ?_ | refine bA ?_ _)); exact BK622.out⟩, ⟨by repeat (first | (with_reducible first | exact HB.out | apply vA | apply vN | apply vD | refine vS ?_ GE622.out) | exact HB.out)⟩⟩
        · rw [if_neg c9] at H
          exact absurd H (by simp)
      · rw [if_neg c8] at H
        have c8b0 : decide (x9_1 < (t624.length : Int)) = false := decide_eq_false c8
        clear c8
        simp only [Option.some.injEq, Prod.mk.injEq] at H
        obtain ⟨rfl, rfl, rfl, rfl, rfl, rfl⟩ := H
        obtain ⟨Ao14, co14, eo14⟩ := Kd.R_slice HO_8.out
        subst eo14
        have hcz15_0 : wr.cell? ⟨gb622, 0, none⟩ = some (.int .i64 x623000_1) := (bC BK622.out 0).trans rfl
        have hcz15_1 : wr.cell? ⟨gb622, 1, none⟩ = some (.int .i64 x623001_1) := (bC BK622.out 1).trans rfl
        have hcz15_2 : wr.cell? ⟨gb622, 2, none⟩ = some (.string x623002_1) := (bC BK622.out 2).trans rfl
        have hcz15_3 : wr.cell? ⟨gb622, 3, none⟩ = some (.string x623003_1) := (bC BK622.out 3).trans rfl
        have hcz15_4 : wr.cell? ⟨gb622, 4, none⟩ = some (.bool x623004_1) := (bC BK622.out 4).trans rfl
        have hfz15_0 := bF BK622.out 0
        have hfz15_1 := bF BK622.out 1
        have hfz15_2 := bF BK622.out 2
        have hfz15_3 := bF BK622.out 3
        have hfz15_4 := bF BK622.out 4
        go_wp2
        refine bodyPost_ret (results_ct rfl _ _ gb622 34 #[.int .i64 0, .int .i64 0, .string (⟨#[]⟩ : ByteArray), .string (⟨#[]⟩ : ByteArray), .bool false] (0, 0) _ rfl (by (with_reducible repeat (first | refine bN ?_ _ | refine bD ?_ | refine bA ?_ _)); refine bP (cs := #[.int .i64 0, .int .i64 0, .string (⟨#[]⟩ : ByteArray), .string (⟨#[]⟩ : ByteArray), .bool x623004_1]) ?_ 4 _ rfl; (with_reducible repeat (first | refine bN ?_ _ | refine bD ?_ | refine bA ?_ _)); refine bP (cs := #[.int .i64 0, .int .i64 0, .string (⟨#[]⟩ : ByteArray), .string x623003_1, .bool x623004_1]) ?_ 3 _ rfl; (with_reducible repeat (first | refine bN ?_ _ | refine bD ?_ | refine bA ?_ _)); refine bP (cs := #[.int .i64 0, .int .i64 0, .string x623002_1, .string x623003_1, .bool x623004_1]) ?_ 2 _ rfl; (with_reducible repeat (first | refine bN ?_ _ | refine bD ?_ | refine bA ?_ _)); refine bP (cs := #[.int .i64 0, .int .i64 x623001_1, .string x623002_1, .string x623003_1, .bool x623004_1]) ?_ 1 _ rfl; (with_reducible repeat (first | refine bN ?_ _ | refine bD ?_ | refine bA ?_ _)); refine bP (cs := #[.int .i64 x623000_1, .int .i64 x623001_1, .string x623002_1, .string x623003_1, .bool x623004_1]) ?_ 0 _ rfl; (with_reducible repeat (first | refine bN ?_ _ | refine bD ?_ | refine bA ?_ _)); exact BK622.out) Try.underlying34 rfl (by kernel_rfl)) rfl ?_
        exact ⟨by first | rfl | (simp [*, eN, eS] <;> rfl) | (simp [eN, eS]; generalize ByteArray.toList _ = l_; cases l_ <;> rfl), by repeat (first | (with_reducible first | exact HB.out | apply vA | apply vN | apply vD | refine vS ?_ GE622.out) | exact HB.out)⟩

end Go.Proofs.Ytphnolgneojdhaa.Z

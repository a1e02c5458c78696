-- printed by a program of this session (a changed copy of the kit's printer; squeeze.py)
import Derived.Test.YtphnolgneojdhaaVx0
import Derived.Test.YtphnolgneojdhaaVx4
namespace Go.Proofs.Ytphnolgneojdhaa.V
open Go.RowKit Go.Proofs.YtphnolgneojdhaaW.PrintWords Go.Proofs.YtphnolgneojdhaaW.PrintLast Go.Proofs.YtphnolgneojdhaaW.PrintMore
attribute [local go_sem] max2_int min2_int max_two min_two max_three min_three max_four min_four   -- for this text's walks alone
set_option linter.unusedVariables false
set_option linter.unusedSimpArgs false
/-! ### cooperagelaw9_alive: function 11 -/
def cooperagelaw9_alive.f (k : Nat)  : Option (Bool) := (index_Make.f k (([(⟨0, 0, (⟨#[97]⟩ : ByteArray), (⟨#[]⟩ : ByteArray), false⟩ : S34), (⟨5, 0, (⟨#[98]⟩ : ByteArray), (⟨#[]⟩ : ByteArray), false⟩ : S34)] : List (S34))) 1).bind fun t204 => (if (t204.length : Int) = 2 then (if 0 < (t204.length : Int) then (if ((rd_T36 t204 0).f2) = 0 then (if 1 < (t204.length : Int) then (if ((rd_T36 t204 1).f0) = 5 then (if ((rd_T36 t204 1).f2) > 0 then ((index_Make.f k ([] : List (S34)) 1).bind fun t210 => (some ((t210.length : Int) == 0))) else (some false)) else (some false)) else (none)) else (some false)) else (none)) else (some false))
theorem cooperagelaw9_alive.mono : ∀ k, LeO (cooperagelaw9_alive.f k ) (cooperagelaw9_alive.f (k + 1) ) := by
  intro  k
  unfold cooperagelaw9_alive.f
  repeat' first
      | (with_reducible exact LeO.refl _)
      | (with_reducible exact LeO.none _)
      | (with_reducible refine LeO.ite ?_ ?_)
      | (with_reducible refine LeO.bind ?_ (fun _ => ?_))
      | exact index_Make.mono _ _ _
      | exact LeO.none _
      | refine LeO.ite ?_ ?_
      | refine LeO.bind ?_ (fun _ => ?_)
set_option maxHeartbeats 8000000 in
set_option maxRecDepth 100000 in
theorem cooperagelaw9_alive.calls (k : Nat)  (r : Bool) (w : World) (h : cooperagelaw9_alive.f k  = some r) :
    Calls Try.prog 11 #[] w fun e w' => e = .returned (.bool r) ∧ Below w.heap.size w w' := by
  have hu34 := Try.underlying34
  have HB := Aside0.mk (Below.refl w.heap.size w)
  have H : ((index_Make.f k (([(⟨0, 0, (⟨#[97]⟩ : ByteArray), (⟨#[]⟩ : ByteArray), false⟩ : S34), (⟨5, 0, (⟨#[98]⟩ : ByteArray), (⟨#[]⟩ : ByteArray), false⟩ : S34)] : List (S34))) 1).bind fun t204 => (if (t204.length : Int) = 2 then (if 0 < (t204.length : Int) then (if ((rd_T36 t204 0).f2) = 0 then (if 1 < (t204.length : Int) then (if ((rd_T36 t204 1).f0) = 5 then (if ((rd_T36 t204 1).f2) > 0 then ((index_Make.f k ([] : List (S34)) 1).bind fun t210 => (some ((t210.length : Int) == 0))) else (some false)) else (some false)) else (none)) else (some false)) else (none)) else (some false))) = some r := h
  clear h
  obtain ⟨y201, hy201⟩ : ∃ y_ : List (S34), y_ = (([(⟨0, 0, (⟨#[97]⟩ : ByteArray), (⟨#[]⟩ : ByteArray), false⟩ : S34), (⟨5, 0, (⟨#[98]⟩ : ByteArray), (⟨#[]⟩ : ByteArray), false⟩ : S34)] : List (S34))) := ⟨_, rfl⟩
  replace H : ((index_Make.f k y201 1).bind fun t204 => (if (t204.length : Int) = 2 then (if 0 < (t204.length : Int) then (if ((rd_T36 t204 0).f2) = 0 then (if 1 < (t204.length : Int) then (if ((rd_T36 t204 1).f0) = 5 then (if ((rd_T36 t204 1).f2) > 0 then ((index_Make.f k ([] : List (S34)) 1).bind fun t210 => (some ((t210.length : Int) == 0))) else (some false)) else (some false)) else (none)) else (some false)) else (none)) else (some false))) = some r := by first | (rw [hy201]; with_reducible exact H) | (have H2_ := (Option.bind_some _ _).symm.trans H; rw [hy201]; with_reducible exact H2_) | (have H2_ := (Option.bind_some _ _).symm.trans H; with_reducible exact H2_) | with_reducible exact H | (rw [hy201]; exact H) | exact H
  have Ny201 := Aside0.mk hy201
  clear hy201
  replace H := Option.bind_eq_some_iff.mp H
  obtain ⟨t204, A10, H⟩ := H
  replace H : (if (t204.length : Int) = 2 then (if 0 < (t204.length : Int) then (if ((rd_T36 t204 0).f2) = 0 then (if 1 < (t204.length : Int) then (if ((rd_T36 t204 1).f0) = 5 then (if ((rd_T36 t204 1).f2) > 0 then ((index_Make.f k ([] : List (S34)) 1).bind fun t210 => (some ((t210.length : Int) == 0))) else (some false)) else (some false)) else (none)) else (some false)) else (none)) else (some false)) = some r := H
  have A1 := Aside0.mk A10
  clear A10
  by_cases c2 : (t204.length : Int) = 2
  · rw [if_pos c2] at H
    have c2b0 : ((t204.length : Int) == 2) = true := beq_iff_eq.mpr c2
    have c2b1 : ((t204.length : Int) != 2) = false := bne_eq_false_iff_eq.mpr c2
    clear c2
    by_cases c3 : 0 < (t204.length : Int)
    · rw [if_pos c3] at H
      have c3b0 : decide (0 < (t204.length : Int)) = true := decide_eq_true c3
      have c3b1 : decide (0 < t204.length) = true := decide_eq_true (by omega)
      clear c3
      by_cases c4 : ((rd_T36 t204 0).f2) = 0
      · rw [if_pos c4] at H
        have c4b0 : (((rd_T36 t204 0).f2) == 0) = true := beq_iff_eq.mpr c4
        have c4b1 : (((rd_T36 t204 0).f2) != 0) = false := bne_eq_false_iff_eq.mpr c4
        clear c4
        by_cases c5 : 1 < (t204.length : Int)
        · rw [if_pos c5] at H
          have c5b0 : decide (1 < (t204.length : Int)) = true := decide_eq_true c5
          have c5b1 : decide (1 < t204.length) = true := decide_eq_true (by omega)
          clear c5
          by_cases c6 : ((rd_T36 t204 1).f0) = 5
          · rw [if_pos c6] at H
            have c6b0 : (((rd_T36 t204 1).f0) == 5) = true := beq_iff_eq.mpr c6
            have c6b1 : (((rd_T36 t204 1).f0) != 5) = false := bne_eq_false_iff_eq.mpr c6
            clear c6
            by_cases c7 : ((rd_T36 t204 1).f2) > 0
            · rw [if_pos c7] at H
              have c7b0 : decide (0 < ((rd_T36 t204 1).f2)) = true := decide_eq_true c7
              clear c7
              replace H := Option.bind_eq_some_iff.mp H
              obtain ⟨t210, A80, H⟩ := H
              replace H : (some ((t210.length : Int) == 0)) = some r := H
              have A8 := Aside0.mk A80
              clear A80
              obtain rfl := Option.some.inj H
              go_enter Try.func11, Try.ntmps11
              go_wp2_with (first | ((with_reducible refine gate_dst (N := 5) rfl ?_); (try (refine gate_guard (by rfl) ?_; dsimp only)); refine Kd.R_lit k34 _ 34 ?hg (N := 5) ?hd (xs := ([(⟨0, 0, (⟨#[97]⟩ : ByteArray), (⟨#[]⟩ : ByteArray), false⟩ : S34), (⟨5, 0, (⟨#[98]⟩ : ByteArray), (⟨#[]⟩ : ByteArray), false⟩ : S34)] : List (S34))) (inner := [.int .i64 0, .int .i64 0, .string (⟨#[97]⟩ : ByteArray), .string (⟨#[]⟩ : ByteArray), .bool false, .int .i64 5, .int .i64 0, .string (⟨#[98]⟩ : ByteArray), .string (⟨#[]⟩ : ByteArray), .bool false]) (ok := fun _ => True) (okp := fun _ => True) ?hr ?hp (fun _ hk => hk) trivial (Below.refl _ _) (Nat.le_refl _) (by simp) ?_; (case hd => rfl); (case hg => rfl); (case hr => first | (go_simp; done) | (go_simp; rfl)); (case hp => exact (Reps.c5 (show Kd.M k34 _ _ _ (⟨0, 0, (⟨#[97]⟩ : ByteArray), (⟨#[]⟩ : ByteArray), false⟩ : S34) [.int .i64 0, .int .i64 0, .string (⟨#[97]⟩ : ByteArray), .string (⟨#[]⟩ : ByteArray), .bool false] from (k34_mkM _ _ _ (⟨0, 0, (⟨#[97]⟩ : ByteArray), (⟨#[]⟩ : ByteArray), false⟩ : S34) )) (Reps.c5 (show Kd.M k34 _ _ _ (⟨5, 0, (⟨#[98]⟩ : ByteArray), (⟨#[]⟩ : ByteArray), false⟩ : S34) [.int .i64 5, .int .i64 0, .string (⟨#[98]⟩ : ByteArray), .string (⟨#[]⟩ : ByteArray), .bool false] from (k34_mkM _ _ _ (⟨5, 0, (⟨#[98]⟩ : ByteArray), (⟨#[]⟩ : ByteArray), false⟩ : S34) )) (Reps.none _ _)))); intro v202 w9 ho10 hb hg_ hnew_; clear hg_ hnew_; (first | rw [← Ny201.out] at ho10 | (simp only [Int.reduceToNat] at ho10; rw [← Ny201.out] at ho10)); have n0_ := Aside0.mk (Kd.RL ho10 (vZ (by repeat (first | (with_reducible first | exact HB.out | apply vA | apply vN | apply vD) | exact HB.out)))); have n1_ := Aside0.mk (vT (by repeat (first | (with_reducible first | exact HB.out | apply vA | apply vN | apply vD) | exact HB.out)) hb); clear HB; have HO203 := n0_; have HB := n1_; clear n0_ n1_; clear hb ho10; obtain ⟨Ao11, co11, eo11⟩ := Kd.R_slice HO203.out; subst eo11) | ((with_reducible refine gate_callee (f := 14) rfl ?_); refine goesL_ (some 7) rfl rfl Try.func14 (by kernel_rfl) rfl #[.slice Ao11 y201.length co11, .int .i64 1] rfl (by (try simp only [List.map_toArray, List.map_cons, List.map_nil]); first | done | rfl | (simp only [List.length_drop, List.length_take]; rfl)) ?_; (with_reducible refine (index_Make.calls k _ _ y201 1 t204 _ ?side1 ?side2 A1.out).mono ?_); (case side1 => repeat (first | exact (Kd.R_reads' HO203.out).2.2 | (with_reducible refine Kd.C_alloc ?_ _) | (with_reducible refine Kd.C_drewN ?_ _) | (with_reducible refine Kd.C_drew ?_))); (case side2 => exact (Kd.R_reads' HO203.out).2.1); rintro e w12 ⟨v205, rfl, ho0, hb⟩; refine ⟨_, rfl, ?_⟩; have n0_ := Aside0.mk (Kd.RB (by (with_reducible repeat (first | apply Kd.RA | apply Kd.RN | apply Kd.RD)); exact HO203.out) hb); have n1_ := Aside0.mk (Kd.RL ho0 (vZ (by repeat (first | (with_reducible first | exact HB.out | apply vA | apply vN | apply vD) | exact HB.out)))); have n2_ := Aside0.mk (vT (by repeat (first | (with_reducible first | exact HB.out | apply vA | apply vN | apply vD) | exact HB.out)) hb); clear HO203; clear HB; have HO203 := n0_; have HO206 := n1_; have HB := n2_; clear n0_ n1_ n2_; (try clear hb); (try clear hb2); (try clear hk); (try clear hi); (try clear ho0); obtain ⟨Ao13, co13, eo13⟩ := Kd.R_slice HO206.out; subst eo13; have p207 : 0 ≤ (0 : Int) := (by omega); have q207 : 0 < (t204.length : Int) := of_decide_eq_true (by first | (with_reducible assumption) | assumption); obtain ⟨ad207, e207, hx207_0, hx207_1, hx207_2⟩ := at_T36 (Kd.R_reads' HO206.out).2.2 0 p207 q207; cases e207; have qi207 : (0 < t204.length) = True := eq_true (by omega); (try rw [show ((0 : Int)).toNat = 0 from rfl] at hx207_0); (try rw [show 0 * 3 = 0 from rfl] at hx207_0); (try rw [Addr.add_zero'] at hx207_0); (try rw [show ((0 : Int)).toNat = 0 from rfl] at hx207_1); (try rw [show 0 * 3 = 0 from rfl] at hx207_1); (try rw [Addr.add_zero'] at hx207_1); (try rw [show ((0 : Int)).toNat = 0 from rfl] at hx207_2); (try rw [show 0 * 3 = 0 from rfl] at hx207_2); (try rw [Addr.add_zero'] at hx207_2); replace p207 := eq_true p207; replace q207 := eq_true q207; have p208 : 0 ≤ (1 : Int) := (by omega); have q208 : 1 < (t204.length : Int) := of_decide_eq_true (by first | (with_reducible assumption) | assumption); obtain ⟨ad208, e208, hx208_0, hx208_1, hx208_2⟩ := at_T36 (Kd.R_reads' HO206.out).2.2 1 p208 q208; obtain rfl : ad207 = ad208 := (by injection e208); (try simp only [show (1 : Int).toNat = 1 from rfl, Nat.reduceMul, Nat.reduceEqDiff, Go.Addr.add, ↓reduceIte] at hx208_0); (try simp only [show (1 : Int).toNat = 1 from rfl, Nat.reduceMul, Nat.reduceEqDiff, Go.Addr.add, ↓reduceIte] at hx208_1); (try simp only [show (1 : Int).toNat = 1 from rfl, Nat.reduceMul, Nat.reduceEqDiff, Go.Addr.add, ↓reduceIte] at hx208_2); have qi208 : (1 < t204.length) = True := eq_true (by omega); (try rw [show ((1 : Int)).toNat = 1 from rfl] at hx208_0); (try rw [show 1 * 3 = 3 from rfl] at hx208_0); (try rw [show ((1 : Int)).toNat = 1 from rfl] at hx208_1); (try rw [show 1 * 3 = 3 from rfl] at hx208_1); (try rw [show ((1 : Int)).toNat = 1 from rfl] at hx208_2); (try rw [show 1 * 3 = 3 from rfl] at hx208_2); replace p208 := eq_true p208; replace q208 := eq_true q208; have p209 : 0 ≤ (1 : Int) := (by omega); have q209 : 1 < (t204.length : Int) := of_decide_eq_true (by first | (with_reducible assumption) | assumption); obtain ⟨ad209, e209, hx209_0, hx209_1, hx209_2⟩ := at_T36 (Kd.R_reads' HO206.out).2.2 1 p209 q209; obtain rfl : ad207 = ad209 := (by injection e209); (try simp only [show (1 : Int).toNat = 1 from rfl, Nat.reduceMul, Nat.reduceEqDiff, Go.Addr.add, ↓reduceIte] at hx209_0); (try simp only [show (1 : Int).toNat = 1 from rfl, Nat.reduceMul, Nat.reduceEqDiff, Go.Addr.add, ↓reduceIte] at hx209_1); (try simp only [show (1 : Int).toNat = 1 from rfl, Nat.reduceMul, Nat.reduceEqDiff, Go.Addr.add, ↓reduceIte] at hx209_2); have qi209 : (1 < t204.length) = True := eq_true (by omega); (try rw [show ((1 : Int)).toNat = 1 from rfl] at hx209_0); (try rw [show 1 * 3 = 3 from rfl] at hx209_0); (try rw [show ((1 : Int)).toNat = 1 from rfl] at hx209_1); (try rw [show 1 * 3 = 3 from rfl] at hx209_1); (try rw [show ((1 : Int)).toNat = 1 from rfl] at hx209_2); (try rw [show 1 * 3 = 3 from rfl] at hx209_2); replace p209 := eq_true p209; replace q209 := eq_true q209) | (go_at_call 14; (refine (index_Make.calls k _ _ ([] : List (S34)) 1 t210 _ ?side1 ?side2 A8.out).mono ?_); (case side1 => exact Kd.C_nil _ _); (case side2 => exact Nat.le_refl _); rintro e w14 ⟨v211, rfl, ho0, hb⟩; have n0_ := Aside0.mk (Kd.RB (by (with_reducible repeat (first | apply Kd.RA | apply Kd.RN | apply Kd.RD)); exact HO203.out) hb); have n1_ := Aside0.mk (Kd.R_elder' (by (with_reducible repeat (first | apply Kd.RA | apply Kd.RN | apply Kd.RD)); exact HO206.out) (Kd.R_base ho0) hb); have n2_ := Aside0.mk (Kd.RL (Kd.R_new' ho0 (Kd.R_lt (by (with_reducible repeat (first | apply Kd.RA | apply Kd.RN | apply Kd.RD)); exact HO206.out))) (vZ (by repeat (first | (with_reducible first | exact HB.out | apply vA | apply vN | apply vD) | exact HB.out)))); have n3_ := Aside0.mk (vT (by repeat (first | (with_reducible first | exact HB.out | apply vA | apply vN | apply vD) | exact HB.out)) hb); clear HO203; clear HO206; clear HB; have HO203 := n0_; have HO206 := n1_; have HO212 := n2_; have HB := n3_; clear n0_ n1_ n2_ n3_; (try clear hb); (try clear hb2); (try clear hk); (try clear hi); (try clear ho0); obtain ⟨Ao15, co15, eo15⟩ := Kd.R_slice HO212.out; subst eo15))
              go_ret
              exact ⟨by first | rfl | (simp [*, eN, eS] <;> rfl) | (simp [eN, eS]; generalize ByteArray.toList _ = l_; cases l_ <;> rfl), by repeat (first | (with_reducible first | exact HB.out | apply vA | apply vN | apply vD) | exact HB.out)⟩
            · rw [if_neg c7] at H
              have c7b0 : decide (0 < ((rd_T36 t204 1).f2)) = false := decide_eq_false c7
              clear c7
              obtain rfl := Option.some.inj H
              go_enter Try.func11, Try.ntmps11
              go_wp2_with (first | ((with_reducible refine gate_dst (N := 5) rfl ?_); (try (refine gate_guard (by rfl) ?_; dsimp only)); refine Kd.R_lit k34 _ 34 ?hg (N := 5) ?hd (xs := ([(⟨0, 0, (⟨#[97]⟩ : ByteArray), (⟨#[]⟩ : ByteArray), false⟩ : S34), (⟨5, 0, (⟨#[98]⟩ : ByteArray), (⟨#[]⟩ : ByteArray), false⟩ : S34)] : List (S34))) (inner := [.int .i64 0, .int .i64 0, .string (⟨#[97]⟩ : ByteArray), .string (⟨#[]⟩ : ByteArray), .bool false, .int .i64 5, .int .i64 0, .string (⟨#[98]⟩ : ByteArray), .string (⟨#[]⟩ : ByteArray), .bool false]) (ok := fun _ => True) (okp := fun _ => True) ?hr ?hp (fun _ hk => hk) trivial (Below.refl _ _) (Nat.le_refl _) (by simp) ?_; (case hd => rfl); (case hg => rfl); (case hr => first | (go_simp; done) | (go_simp; rfl)); (case hp => exact (Reps.c5 (show Kd.M k34 _ _ _ (⟨0, 0, (⟨#[97]⟩ : ByteArray), (⟨#[]⟩ : ByteArray), false⟩ : S34) [.int .i64 0, .int .i64 0, .string (⟨#[97]⟩ : ByteArray), .string (⟨#[]⟩ : ByteArray), .bool false] from (k34_mkM _ _ _ (⟨0, 0, (⟨#[97]⟩ : ByteArray), (⟨#[]⟩ : ByteArray), false⟩ : S34) )) (Reps.c5 (show Kd.M k34 _ _ _ (⟨5, 0, (⟨#[98]⟩ : ByteArray), (⟨#[]⟩ : ByteArray), false⟩ : S34) [.int .i64 5, .int .i64 0, .string (⟨#[98]⟩ : ByteArray), .string (⟨#[]⟩ : ByteArray), .bool false] from (k34_mkM _ _ _ (⟨5, 0, (⟨#[98]⟩ : ByteArray), (⟨#[]⟩ : ByteArray), false⟩ : S34) )) (Reps.none _ _)))); intro v202 w16 ho17 hb hg_ hnew_; clear hg_ hnew_; (first | rw [← Ny201.out] at ho17 | (simp only [Int.reduceToNat] at ho17; rw [← Ny201.out] at ho17)); have n0_ := Aside0.mk (Kd.RL ho17 (vZ (by repeat (first | (with_reducible first | exact HB.out | apply vA | apply vN | apply vD) | exact HB.out)))); have n1_ := Aside0.mk (vT (by repeat (first | (with_reducible first | exact HB.out | apply vA | apply vN | apply vD) | exact HB.out)) hb); clear HB; have HO203 := n0_; have HB := n1_; clear n0_ n1_; clear hb ho17; obtain ⟨Ao18, co18, eo18⟩ := Kd.R_slice HO203.out; subst eo18) | ((with_reducible refine gate_callee (f := 14) rfl ?_); refine goesL_ (some 7) rfl rfl Try.func14 (by kernel_rfl) rfl #[.slice Ao18 y201.length co18, .int .i64 1] rfl (by (try simp only [List.map_toArray, List.map_cons, List.map_nil]); first | done | rfl | (simp only [List.length_drop, List.length_take]; rfl)) ?_; (with_reducible refine (index_Make.calls k _ _ y201 1 t204 _ ?side1 ?side2 A1.out).mono ?_); (case side1 => repeat (first | exact (Kd.R_reads' HO203.out).2.2 | (with_reducible refine Kd.C_alloc ?_ _) | (with_reducible refine Kd.C_drewN ?_ _) | (with_reducible refine Kd.C_drew ?_))); (case side2 => exact (Kd.R_reads' HO203.out).2.1); rintro e w19 ⟨v205, rfl, ho0, hb⟩; refine ⟨_, rfl, ?_⟩; have n0_ := Aside0.mk (Kd.RB (by (with_reducible repeat (first | apply Kd.RA | apply Kd.RN | apply Kd.RD)); exact HO203.out) hb); have n1_ := Aside0.mk (Kd.RL ho0 (vZ (by repeat (first | (with_reducible first | exact HB.out | apply vA | apply vN | apply vD) | exact HB.out)))); have n2_ := Aside0.mk (vT (by repeat (first | (with_reducible first | exact HB.out | apply vA | apply vN | apply vD) | exact HB.out)) hb); clear HO203; clear HB; have HO203 := n0_; have HO206 := n1_; have HB := n2_; clear n0_ n1_ n2_; (try clear hb); (try clear hb2); (try clear hk); (try clear hi); (try clear ho0); obtain ⟨Ao20, co20, eo20⟩ := Kd.R_slice HO206.out; subst eo20; have p207 : 0 ≤ (0 : Int) := (by omega); have q207 : 0 < (t204.length : Int) := of_decide_eq_true (by first | (with_reducible assumption) | assumption); obtain ⟨ad207, e207, hx207_0, hx207_1, hx207_2⟩ := at_T36 (Kd.R_reads' HO206.out).2.2 0 p207 q207; cases e207; have qi207 : (0 < t204.length) = True := eq_true (by omega); (try rw [show ((0 : Int)).toNat = 0 from rfl] at hx207_0); (try rw [show 0 * 3 = 0 from rfl] at hx207_0); (try rw [Addr.add_zero'] at hx207_0); (try rw [show ((0 : Int)).toNat = 0 from rfl] at hx207_1); (try rw [show 0 * 3 = 0 from rfl] at hx207_1); (try rw [Addr.add_zero'] at hx207_1); (try rw [show ((0 : Int)).toNat = 0 from rfl] at hx207_2); (try rw [show 0 * 3 = 0 from rfl] at hx207_2); (try rw [Addr.add_zero'] at hx207_2); replace p207 := eq_true p207; replace q207 := eq_true q207; have p208 : 0 ≤ (1 : Int) := (by omega); have q208 : 1 < (t204.length : Int) := of_decide_eq_true (by first | (with_reducible assumption) | assumption); obtain ⟨ad208, e208, hx208_0, hx208_1, hx208_2⟩ := at_T36 (Kd.R_reads' HO206.out).2.2 1 p208 q208; obtain rfl : ad207 = ad208 := (by injection e208); (try simp only [show (1 : Int).toNat = 1 from rfl, Nat.reduceMul, Nat.reduceEqDiff, Go.Addr.add, ↓reduceIte] at hx208_0); (try simp only [show (1 : Int).toNat = 1 from rfl, Nat.reduceMul, Nat.reduceEqDiff, Go.Addr.add, ↓reduceIte] at hx208_1); (try simp only [show (1 : Int).toNat = 1 from rfl, Nat.reduceMul, Nat.reduceEqDiff, Go.Addr.add, ↓reduceIte] at hx208_2); have qi208 : (1 < t204.length) = True := eq_true (by omega); (try rw [show ((1 : Int)).toNat = 1 from rfl] at hx208_0); (try rw [show 1 * 3 = 3 from rfl] at hx208_0); (try rw [show ((1 : Int)).toNat = 1 from rfl] at hx208_1); (try rw [show 1 * 3 = 3 from rfl] at hx208_1); (try rw [show ((1 : Int)).toNat = 1 from rfl] at hx208_2); (try rw [show 1 * 3 = 3 from rfl] at hx208_2); replace p208 := eq_true p208; replace q208 := eq_true q208; have p209 : 0 ≤ (1 : Int) := (by omega); have q209 : 1 < (t204.length : Int) := of_decide_eq_true (by first | (with_reducible assumption) | assumption); obtain ⟨ad209, e209, hx209_0, hx209_1, hx209_2⟩ := at_T36 (Kd.R_reads' HO206.out).2.2 1 p209 q209; obtain rfl : ad207 = ad209 := (by injection e209); (try simp only [show (1 : Int).toNat = 1 from rfl, Nat.reduceMul, Nat.reduceEqDiff, Go.Addr.add, ↓reduceIte] at hx209_0); (try simp only [show (1 : Int).toNat = 1 from rfl, Nat.reduceMul, Nat.reduceEqDiff, Go.Addr.add, ↓reduceIte] at hx209_1); (try simp only [show (1 : Int).toNat = 1 from rfl, Nat.reduceMul, Nat.reduceEqDiff, Go.Addr.add, ↓reduceIte] at hx209_2); have qi209 : (1 < t204.length) = True := eq_true (by omega); (try rw [show ((1 : Int)).toNat = 1 from rfl] at hx209_0); (try rw [show 1 * 3 = 3 from rfl] at hx209_0); (try rw [show ((1 : Int)).toNat = 1 from rfl] at hx209_1); (try rw [show 1 * 3 = 3 from rfl] at hx209_1); (try rw [show ((1 : Int)).toNat = 1 from rfl] at hx209_2); (try rw [show 1 * 3 = 3 from rfl] at hx209_2); replace p209 := eq_true p209; replace q209 := eq_true q209))
              go_ret
              exact ⟨by first | rfl | (simp [*, eN, eS] <;> rfl) | (simp [eN, eS]; generalize ByteArray.toList _ = l_; cases l_ <;> rfl), by repeat (first | (with_reducible first | exact HB.out | apply vA | apply vN | apply vD) | exact HB.out)⟩
          · rw [if_neg c6] at H
            have c6b0 : (((rd_T36 t204 1).f0) == 5) = false := beq_eq_false_iff_ne.mpr c6
            have c6b1 : (((rd_T36 t204 1).f0) != 5) = true := bne_iff_ne.mpr c6
            obtain rfl := Option.some.inj H
            go_enter Try.func11, Try.ntmps11
            go_wp2_with (first | ((with_reducible refine gate_dst (N := 5) rfl ?_); (try (refine gate_guard (by rfl) ?_; dsimp only)); refine Kd.R_lit k34 _ 34 ?hg (N := 5) ?hd (xs := ([(⟨0, 0, (⟨#[97]⟩ : ByteArray), (⟨#[]⟩ : ByteArray), false⟩ : S34), (⟨5, 0, (⟨#[98]⟩ : ByteArray), (⟨#[]⟩ : ByteArray), false⟩ : S34)] : List (S34))) (inner := [.int .i64 0, .int .i64 0, .string (⟨#[97]⟩ : ByteArray), .string (⟨#[]⟩ : ByteArray), .bool false, .int .i64 5, .int .i64 0, .string (⟨#[98]⟩ : ByteArray), .string (⟨#[]⟩ : ByteArray), .bool false]) (ok := fun _ => True) (okp := fun _ => True) ?hr ?hp (fun _ hk => hk) trivial (Below.refl _ _) (Nat.le_refl _) (by simp) ?_; (case hd => rfl); (case hg => rfl); (case hr => first | (go_simp; done) | (go_simp; rfl)); (case hp => exact (Reps.c5 (show Kd.M k34 _ _ _ (⟨0, 0, (⟨#[97]⟩ : ByteArray), (⟨#[]⟩ : ByteArray), false⟩ : S34) [.int .i64 0, .int .i64 0, .string (⟨#[97]⟩ : ByteArray), .string (⟨#[]⟩ : ByteArray), .bool false] from (k34_mkM _ _ _ (⟨0, 0, (⟨#[97]⟩ : ByteArray), (⟨#[]⟩ : ByteArray), false⟩ : S34) )) (Reps.c5 (show Kd.M k34 _ _ _ (⟨5, 0, (⟨#[98]⟩ : ByteArray), (⟨#[]⟩ : ByteArray), false⟩ : S34) [.int .i64 5, .int .i64 0, .string (⟨#[98]⟩ : ByteArray), .string (⟨#[]⟩ : ByteArray), .bool false] from (k34_mkM _ _ _ (⟨5, 0, (⟨#[98]⟩ : ByteArray), (⟨#[]⟩ : ByteArray), false⟩ : S34) )) (Reps.none _ _)))); intro v202 w21 ho22 hb hg_ hnew_; clear hg_ hnew_; (first | rw [← Ny201.out] at ho22 | (simp only [Int.reduceToNat] at ho22; rw [← Ny201.out] at ho22)); have n0_ := Aside0.mk (Kd.RL ho22 (vZ (by repeat (first | (with_reducible first | exact HB.out | apply vA | apply vN | apply vD) | exact HB.out)))); have n1_ := Aside0.mk (vT (by repeat (first | (with_reducible first | exact HB.out | apply vA | apply vN | apply vD) | exact HB.out)) hb); clear HB; have HO203 := n0_; have HB := n1_; clear n0_ n1_; clear hb ho22; obtain ⟨Ao23, co23, eo23⟩ := Kd.R_slice HO203.out; subst eo23) | ((with_reducible refine gate_callee (f := 14) rfl ?_); refine goesL_ (some 7) rfl rfl Try.func14 (by kernel_rfl) rfl #[.slice Ao23 y201.length co23, .int .i64 1] rfl (by (try simp only [List.map_toArray, List.map_cons, List.map_nil]); first | done | rfl | (simp only [List.length_drop, List.length_take]; rfl)) ?_; (with_reducible refine (index_Make.calls k _ _ y201 1 t204 _ ?side1 ?side2 A1.out).mono ?_); (case side1 => repeat (first | exact (Kd.R_reads' HO203.out).2.2 | (with_reducible refine Kd.C_alloc ?_ _) | (with_reducible refine Kd.C_drewN ?_ _) | (with_reducible refine Kd.C_drew ?_))); (case side2 => exact (Kd.R_reads' HO203.out).2.1); rintro e w24 ⟨v205, rfl, ho0, hb⟩; refine ⟨_, rfl, ?_⟩; have n0_ := Aside0.mk (Kd.RB (by (with_reducible repeat (first | apply Kd.RA | apply Kd.RN | apply Kd.RD)); exact HO203.out) hb); have n1_ := Aside0.mk (Kd.RL ho0 (vZ (by repeat (first | (with_reducible first | exact HB.out | apply vA | apply vN | apply vD) | exact HB.out)))); have n2_ := Aside0.mk (vT (by repeat (first | (with_reducible first | exact HB.out | apply vA | apply vN | apply vD) | exact HB.out)) hb); clear HO203; clear HB; have HO203 := n0_; have HO206 := n1_; have HB := n2_; clear n0_ n1_ n2_; (try clear hb); (try clear hb2); (try clear hk); (try clear hi); (try clear ho0); obtain ⟨Ao25, co25, eo25⟩ := Kd.R_slice HO206.out; subst eo25; have p207 : 0 ≤ (0 : Int) := (by omega); have q207 : 0 < (t204.length : Int) := of_decide_eq_true (by first | (with_reducible assumption) | assumption); obtain ⟨ad207, e207, hx207_0, hx207_1, hx207_2⟩ := at_T36 (Kd.R_reads' HO206.out).2.2 0 p207 q207; cases e207; have qi207 : (0 < t204.length) = True := eq_true (by omega); (try rw [show ((0 : Int)).toNat = 0 from rfl] at hx207_0); (try rw [show 0 * 3 = 0 from rfl] at hx207_0); (try rw [Addr.add_zero'] at hx207_0); (try rw [show ((0 : Int)).toNat = 0 from rfl] at hx207_1); (try rw [show 0 * 3 = 0 from rfl] at hx207_1); (try rw [Addr.add_zero'] at hx207_1); (try rw [show ((0 : Int)).toNat = 0 from rfl] at hx207_2); (try rw [show 0 * 3 = 0 from rfl] at hx207_2); (try rw [Addr.add_zero'] at hx207_2); replace p207 := eq_true p207; replace q207 := eq_true q207; have p208 : 0 ≤ (1 : Int) := (by omega); have q208 : 1 < (t204.length : Int) := of_decide_eq_true (by first | (with_reducible assumption) | assumption); obtain ⟨ad208, e208, hx208_0, hx208_1, hx208_2⟩ := at_T36 (Kd.R_reads' HO206.out).2.2 1 p208 q208; obtain rfl : ad207 = ad208 := (by injection e208); (try simp only [show (1 : Int).toNat = 1 from rfl, Nat.reduceMul, Nat.reduceEqDiff, Go.Addr.add, ↓reduceIte] at hx208_0); (try simp only [show (1 : Int).toNat = 1 from rfl, Nat.reduceMul, Nat.reduceEqDiff, Go.Addr.add, ↓reduceIte] at hx208_1); (try simp only [show (1 : Int).toNat = 1 from rfl, Nat.reduceMul, Nat.reduceEqDiff, Go.Addr.add, ↓reduceIte] at hx208_2); have qi208 : (1 < t204.length) = True := eq_true (by omega); (try rw [show ((1 : Int)).toNat = 1 from rfl] at hx208_0); (try rw [show 1 * 3 = 3 from rfl] at hx208_0); (try rw [show ((1 : Int)).toNat = 1 from rfl] at hx208_1); (try rw [show 1 * 3 = 3 from rfl] at hx208_1); (try rw [show ((1 : Int)).toNat = 1 from rfl] at hx208_2); (try rw [show 1 * 3 = 3 from rfl] at hx208_2); replace p208 := eq_true p208; replace q208 := eq_true q208))
            go_ret
            exact ⟨by first | rfl | (simp [*, eN, eS] <;> rfl) | (simp [eN, eS]; generalize ByteArray.toList _ = l_; cases l_ <;> rfl), by repeat (first | (with_reducible first | exact HB.out | apply vA | apply vN | apply vD) | exact HB.out)⟩
        · rw [if_neg c5] at H
          exact absurd H (by simp)
      · rw [if_neg c4] at H
        have c4b0 : (((rd_T36 t204 0).f2) == 0) = false := beq_eq_false_iff_ne.mpr c4
        have c4b1 : (((rd_T36 t204 0).f2) != 0) = true := bne_iff_ne.mpr c4
        obtain rfl := Option.some.inj H
        go_enter Try.func11, Try.ntmps11
        go_wp2_with (first | ((with_reducible refine gate_dst (N := 5) rfl ?_); (try (refine gate_guard (by rfl) ?_; dsimp only)); refine Kd.R_lit k34 _ 34 ?hg (N := 5) ?hd (xs := ([(⟨0, 0, (⟨#[97]⟩ : ByteArray), (⟨#[]⟩ : ByteArray), false⟩ : S34), (⟨5, 0, (⟨#[98]⟩ : ByteArray), (⟨#[]⟩ : ByteArray), false⟩ : S34)] : List (S34))) (inner := [.int .i64 0, .int .i64 0, .string (⟨#[97]⟩ : ByteArray), .string (⟨#[]⟩ : ByteArray), .bool false, .int .i64 5, .int .i64 0, .string (⟨#[98]⟩ : ByteArray), .string (⟨#[]⟩ : ByteArray), .bool false]) (ok := fun _ => True) (okp := fun _ => True) ?hr ?hp (fun _ hk => hk) trivial (Below.refl _ _) (Nat.le_refl _) (by simp) ?_; (case hd => rfl); (case hg => rfl); (case hr => first | (go_simp; done) | (go_simp; rfl)); (case hp => exact (Reps.c5 (show Kd.M k34 _ _ _ (⟨0, 0, (⟨#[97]⟩ : ByteArray), (⟨#[]⟩ : ByteArray), false⟩ : S34) [.int .i64 0, .int .i64 0, .string (⟨#[97]⟩ : ByteArray), .string (⟨#[]⟩ : ByteArray), .bool false] from (k34_mkM _ _ _ (⟨0, 0, (⟨#[97]⟩ : ByteArray), (⟨#[]⟩ : ByteArray), false⟩ : S34) )) (Reps.c5 (show Kd.M k34 _ _ _ (⟨5, 0, (⟨#[98]⟩ : ByteArray), (⟨#[]⟩ : ByteArray), false⟩ : S34) [.int .i64 5, .int .i64 0, .string (⟨#[98]⟩ : ByteArray), .string (⟨#[]⟩ : ByteArray), .bool false] from (k34_mkM _ _ _ (⟨5, 0, (⟨#[98]⟩ : ByteArray), (⟨#[]⟩ : ByteArray), false⟩ : S34) )) (Reps.none _ _)))); intro v202 w26 ho27 hb hg_ hnew_; clear hg_ hnew_; (first | rw [← Ny201.out] at ho27 | (simp only [Int.reduceToNat] at ho27; rw [← Ny201.out] at ho27)); have n0_ := Aside0.mk (Kd.RL ho27 (vZ (by repeat (first | (with_reducible first | exact HB.out | apply vA | apply vN | apply vD) | exact HB.out)))); have n1_ := Aside0.mk (vT (by repeat (first | (with_reducible first | exact HB.out | apply vA | apply vN | apply vD) | exact HB.out)) hb); clear HB; have HO203 := n0_; have HB := n1_; clear n0_ n1_; clear hb ho27; obtain ⟨Ao28, co28, eo28⟩ := Kd.R_slice HO203.out; subst eo28) | ((with_reducible refine gate_callee (f := 14) rfl ?_); refine goesL_ (some 7) rfl rfl Try.func14 (by kernel_rfl) rfl #[.slice Ao28 y201.length co28, .int .i64 1] rfl (by (try simp only [List.map_toArray, List.map_cons, List.map_nil]); first | done | rfl | (simp only [List.length_drop, List.length_take]; rfl)) ?_; (with_reducible refine (index_Make.calls k _ _ y201 1 t204 _ ?side1 ?side2 A1.out).mono ?_); (case side1 => repeat (first | exact (Kd.R_reads' HO203.out).2.2 | (with_reducible refine Kd.C_alloc ?_ _) | (with_reducible refine Kd.C_drewN ?_ _) | (with_reducible refine Kd.C_drew ?_))); (case side2 => exact (Kd.R_reads' HO203.out).2.1); rintro e w29 ⟨v205, rfl, ho0, hb⟩; refine ⟨_, rfl, ?_⟩; have n0_ := Aside0.mk (Kd.RB (by (with_reducible repeat (first | apply Kd.RA | apply Kd.RN | apply Kd.RD)); exact HO203.out) hb); have n1_ := Aside0.mk (Kd.RL ho0 (vZ (by repeat (first | (with_reducible first | exact HB.out | apply vA | apply vN | apply vD) | exact HB.out)))); have n2_ := Aside0.mk (vT (by repeat (first | (with_reducible first | exact HB.out | apply vA | apply vN | apply vD) | exact HB.out)) hb); clear HO203; clear HB; have HO203 := n0_; have HO206 := n1_; have HB := n2_; clear n0_ n1_ n2_; (try clear hb); (try clear hb2); (try clear hk); (try clear hi); (try clear ho0); obtain ⟨Ao30, co30, eo30⟩ := Kd.R_slice HO206.out; subst eo30; have p207 : 0 ≤ (0 : Int) := (by omega); have q207 : 0 < (t204.length : Int) := of_decide_eq_true (by first | (with_reducible assumption) | assumption); obtain ⟨ad207, e207, hx207_0, hx207_1, hx207_2⟩ := at_T36 (Kd.R_reads' HO206.out).2.2 0 p207 q207; cases e207; have qi207 : (0 < t204.length) = True := eq_true (by omega); (try rw [show ((0 : Int)).toNat = 0 from rfl] at hx207_0); (try rw [show 0 * 3 = 0 from rfl] at hx207_0); (try rw [Addr.add_zero'] at hx207_0); (try rw [show ((0 : Int)).toNat = 0 from rfl] at hx207_1); (try rw [show 0 * 3 = 0 from rfl] at hx207_1); (try rw [Addr.add_zero'] at hx207_1); (try rw [show ((0 : Int)).toNat = 0 from rfl] at hx207_2); (try rw [show 0 * 3 = 0 from rfl] at hx207_2); (try rw [Addr.add_zero'] at hx207_2); replace p207 := eq_true p207; replace q207 := eq_true q207))
        go_ret
        exact ⟨by first | rfl | (simp [*, eN, eS] <;> rfl) | (simp [eN, eS]; generalize ByteArray.toList _ = l_; cases l_ <;> rfl), by repeat (first | (with_reducible first | exact HB.out | apply vA | apply vN | apply vD) | exact HB.out)⟩
    · rw [if_neg c3] at H
      exact absurd H (by simp)
  · rw [if_neg c2] at H
    have c2b0 : ((t204.length : Int) == 2) = false := beq_eq_false_iff_ne.mpr c2
    have c2b1 : ((t204.length : Int) != 2) = true := bne_iff_ne.mpr c2
    obtain rfl := Option.some.inj H
    go_enter Try.func11, Try.ntmps11
    go_wp2_with (first | ((with_reducible refine gate_dst (N := 5) rfl ?_); (try (refine gate_guard (by rfl) ?_; dsimp only)); refine Kd.R_lit k34 _ 34 ?hg (N := 5) ?hd (xs := ([(⟨0, 0, (⟨#[97]⟩ : ByteArray), (⟨#[]⟩ : ByteArray), false⟩ : S34), (⟨5, 0, (⟨#[98]⟩ : ByteArray), (⟨#[]⟩ : ByteArray), false⟩ : S34)] : List (S34))) (inner := [.int .i64 0, .int .i64 0, .string (⟨#[97]⟩ : ByteArray), .string (⟨#[]⟩ : ByteArray), .bool false, .int .i64 5, .int .i64 0, .string (⟨#[98]⟩ : ByteArray), .string (⟨#[]⟩ : ByteArray), .bool false]) (ok := fun _ => True) (okp := fun _ => True) ?hr ?hp (fun _ hk => hk) trivial (Below.refl _ _) (Nat.le_refl _) (by simp) ?_; (case hd => rfl); (case hg => rfl); (case hr => first | (go_simp; done) | (go_simp; rfl)); (case hp => exact (Reps.c5 (show Kd.M k34 _ _ _ (⟨0, 0, (⟨#[97]⟩ : ByteArray), (⟨#[]⟩ : ByteArray), false⟩ : S34) [.int .i64 0, .int .i64 0, .string (⟨#[97]⟩ : ByteArray), .string (⟨#[]⟩ : ByteArray), .bool false] from (k34_mkM _ _ _ (⟨0, 0, (⟨#[97]⟩ : ByteArray), (⟨#[]⟩ : ByteArray), false⟩ : S34) )) (Reps.c5 (show Kd.M k34 _ _ _ (⟨5, 0, (⟨#[98]⟩ : ByteArray), (⟨#[]⟩ : ByteArray), false⟩ : S34) [.int .i64 5, .int .i64 0, .string (⟨#[98]⟩ : ByteArray), .string (⟨#[]⟩ : ByteArray), .bool false] from (k34_mkM _ _ _ (⟨5, 0, (⟨#[98]⟩ : ByteArray), (⟨#[]⟩ : ByteArray), false⟩ : S34) )) (Reps.none _ _)))); intro v202 w31 ho32 hb hg_ hnew_; clear hg_ hnew_; (first | rw [← Ny201.out] at ho32 | (simp only [Int.reduceToNat] at ho32; rw [← Ny201.out] at ho32)); have n0_ := Aside0.mk (Kd.RL ho32 (vZ (by repeat (first | (with_reducible first | exact HB.out | apply vA | apply vN | apply vD) | exact HB.out)))); have n1_ := Aside0.mk (vT (by repeat (first | (with_reducible first | exact HB.out | apply vA | apply vN | apply vD) | exact HB.out)) hb); clear HB; have HO203 := n0_; have HB := n1_; clear n0_ n1_; clear hb ho32; obtain ⟨Ao33, co33, eo33⟩ := Kd.R_slice HO203.out; subst eo33) | ((with_reducible refine gate_callee (f := 14) rfl ?_); refine goesL_ (some 7) rfl rfl Try.func14 (by kernel_rfl) rfl #[.slice Ao33 y201.length co33, .int .i64 1] rfl (by (try simp only [List.map_toArray, List.map_cons, List.map_nil]); first | done | rfl | (simp only [List.length_drop, List.length_take]; rfl)) ?_; (with_reducible refine (index_Make.calls k _ _ y201 1 t204 _ ?side1 ?side2 A1.out).mono ?_); (case side1 => repeat (first | exact (Kd.R_reads' HO203.out).2.2 | (with_reducible refine Kd.C_alloc ?_ _) | (with_reducible refine Kd.C_drewN ?_ _) | (with_reducible refine Kd.C_drew ?_))); (case side2 => exact (Kd.R_reads' HO203.out).2.1); rintro e w34 ⟨v205, rfl, ho0, hb⟩; refine ⟨_, rfl, ?_⟩; have n0_ := Aside0.mk (Kd.RB (by (with_reducible repeat (first | apply Kd.RA | apply Kd.RN | apply Kd.RD)); exact HO203.out) hb); have n1_ := Aside0.mk (Kd.RL ho0 (vZ (by repeat (first | (with_reducible first | exact HB.out | apply vA | apply vN | apply vD) | exact HB.out)))); have n2_ := Aside0.mk (vT (by repeat (first | (with_reducible first | exact HB.out | apply vA | apply vN | apply vD) | exact HB.out)) hb); clear HO203; clear HB; have HO203 := n0_; have HO206 := n1_; have HB := n2_; clear n0_ n1_ n2_; (try clear hb); (try clear hb2); (try clear hk); (try clear hi); (try clear ho0); obtain ⟨Ao35, co35, eo35⟩ := Kd.R_slice HO206.out; subst eo35))
    go_ret
    exact ⟨by first | rfl | (simp [*, eN, eS] <;> rfl) | (simp [eN, eS]; generalize ByteArray.toList _ = l_; cases l_ <;> rfl), by repeat (first | (with_reducible first | exact HB.out | apply vA | apply vN | apply vD) | exact HB.out)⟩
/-! ### cooperagelaw8_Big: function 12 -/
def cooperagelaw8_Big.l0 : Nat → List (S34) → Int → Option (Bool)
  | 0, _, _ => none
  | k + 1, x0, x3 => if x3 < (x0.length : Int) then (if 0 ≤ x3 then (if (((rd_T34 x0 x3).f2).size : Int) > 250 then (some true) else (if (((rd_T34 x0 x3).f3).size : Int) > 300 then (some true) else (cooperagelaw8_Big.l0 k x0 (wrap64 (x3 + 1))))) else (none)) else (some (decide ((x0.length : Int) > 60)))
def cooperagelaw8_Big.f (k : Nat) (l0 : List (S34)) : Option (Bool) := cooperagelaw8_Big.l0 k l0 0
theorem cooperagelaw8_Big.mono_l : ∀ k, (∀ y0 y1, LeO (cooperagelaw8_Big.l0 k y0 y1) (cooperagelaw8_Big.l0 (k + 1) y0 y1))
  | 0 => fun _ _ r h => by simp [cooperagelaw8_Big.l0] at h
  | k + 1 => by
    have ih0 := cooperagelaw8_Big.mono_l k
    · intro y0 y1
      unfold cooperagelaw8_Big.l0
      repeat' first
      | (with_reducible exact LeO.refl _)
      | (with_reducible exact LeO.none _)
      | (with_reducible refine LeO.ite ?_ ?_)
      | (with_reducible refine LeO.bind ?_ (fun _ => ?_))
      | exact ih0 _ _
      | exact LeO.none _
      | refine LeO.ite ?_ ?_
      | refine LeO.bind ?_ (fun _ => ?_)
theorem cooperagelaw8_Big.mono : ∀ a0 k, LeO (cooperagelaw8_Big.f k a0) (cooperagelaw8_Big.f (k + 1) a0) := by
  intro a0 k
  have ih0 := cooperagelaw8_Big.mono_l k
  unfold cooperagelaw8_Big.f
  repeat' first
      | (with_reducible exact LeO.refl _)
      | (with_reducible exact LeO.none _)
      | (with_reducible refine LeO.ite ?_ ?_)
      | (with_reducible refine LeO.bind ?_ (fun _ => ?_))
      | exact ih0 _ _
      | exact LeO.none _
      | refine LeO.ite ?_ ?_
      | refine LeO.bind ?_ (fun _ => ?_)
set_option maxHeartbeats 8000000 in
set_option maxRecDepth 100000 in
theorem cooperagelaw8_Big.calls (k : Nat) (A0 : Option Addr) (c0 : Nat) (l0 : List (S34)) (r : Bool) (w : World) (hr0 : Kd.C k34 w A0 l0.length l0) (hc0 : l0.length ≤ c0) (h : cooperagelaw8_Big.f k l0 = some r) :
    Calls Try.prog 12 #[.slice A0 l0.length c0] w fun e w' => e = .returned (.bool r) ∧ Drawn0 w w' := by
  have HR0 := Aside0.mk hr0
  have HC0 := Aside0.mk hc0
  clear hr0 hc0
  have H : (cooperagelaw8_Big.l0 k l0 0) = some r := h
  clear h
  have H' := Aside0.mk H
  clear H
  go_enter Try.func12, Try.ntmps12
  go_wp2
  go_loopg [3] k (fun kq v3 w' => ∃ (x3_1 : Int), v3 = .int .i64 x3_1 ∧ Aside0 (cooperagelaw8_Big.l0 kq l0 x3_1 = some r) ∧ Aside0 (kq ≤ k) ∧ Drawn0 w w')
  case atStart => exact ⟨(0), (by first | rfl | (simp; done) | (simp [*]; done)), H', ⟨Nat.le_refl _⟩, by repeat (first | exact Drawn0.refl _ | apply Drawn0.step)⟩
  case round =>
    clear H'
    try clear c1
    obtain ⟨x3_1, rfl, HA, HK1, ⟨m1, rfl⟩⟩ := hrel
    cases gk with
    | zero => exact absurd HA.out (by simp [cooperagelaw8_Big.l0])
    | succ k1 =>
      have H := HA.out
      clear HA
      simp only [cooperagelaw8_Big.l0] at H
      by_cases c2 : x3_1 < (l0.length : Int)
      · rw [if_pos c2] at H
        have c2b0 : decide (x3_1 < (l0.length : Int)) = true := decide_eq_true c2
        clear c2
        by_cases c3 : 0 ≤ x3_1
        · rw [if_pos c3] at H
          have c3b0 : decide (0 ≤ x3_1) = true := decide_eq_true c3
          clear c3
          by_cases c4 : (((rd_T34 l0 x3_1).f2).size : Int) > 250
          · rw [if_pos c4] at H
            have c4b0 : decide (250 < (((rd_T34 l0 x3_1).f2).size : Int)) = true := decide_eq_true c4
            have c4b1 : decide (250 < ((rd_T34 l0 x3_1).f2).size) = true := decide_eq_true (by omega)
            clear c4
            obtain rfl := Option.some.inj H
            have p213 : 0 ≤ (x3_1 : Int) := of_decide_eq_true (by first | (with_reducible assumption) | assumption)
            have q213 : x3_1 < (l0.length : Int) := of_decide_eq_true (by first | (with_reducible assumption) | assumption)
            obtain ⟨ad213, e213, hx213_0, hx213_1, hx213_2, hx213_3, hx213_4⟩ := at_T34 HR0.out x3_1 p213 q213
            cases e213
            replace p213 := eq_true p213
            replace q213 := eq_true q213
            go_wp2
            go_ret
            exact ⟨by first | rfl | (simp; done) | (simp [*]; done), by repeat (first | exact Drawn0.refl _ | apply Drawn0.step)⟩
          · rw [if_neg c4] at H
            have c4b0 : decide (250 < (((rd_T34 l0 x3_1).f2).size : Int)) = false := decide_eq_false c4
            have c4b1 : decide (250 < ((rd_T34 l0 x3_1).f2).size) = false := decide_eq_false (by omega)
            clear c4
            by_cases c5 : (((rd_T34 l0 x3_1).f3).size : Int) > 300
            · rw [if_pos c5] at H
              have c5b0 : decide (300 < (((rd_T34 l0 x3_1).f3).size : Int)) = true := decide_eq_true c5
              have c5b1 : decide (300 < ((rd_T34 l0 x3_1).f3).size) = true := decide_eq_true (by omega)
              clear c5
              obtain rfl := Option.some.inj H
              have p213 : 0 ≤ (x3_1 : Int) := of_decide_eq_true (by first | (with_reducible assumption) | assumption)
              have q213 : x3_1 < (l0.length : Int) := of_decide_eq_true (by first | (with_reducible assumption) | assumption)
              obtain ⟨ad213, e213, hx213_0, hx213_1, hx213_2, hx213_3, hx213_4⟩ := at_T34 HR0.out x3_1 p213 q213
              cases e213
              replace p213 := eq_true p213
              replace q213 := eq_true q213
              have p214 : 0 ≤ (x3_1 : Int) := of_decide_eq_true (by first | (with_reducible assumption) | assumption)
              have q214 : x3_1 < (l0.length : Int) := of_decide_eq_true (by first | (with_reducible assumption) | assumption)
              obtain ⟨ad214, e214, hx214_0, hx214_1, hx214_2, hx214_3, hx214_4⟩ := at_T34 HR0.out x3_1 p214 q214
              obtain rfl : ad213 = ad214 := (by injection e214)
              replace p214 := eq_true p214
              replace q214 := eq_true q214
              go_wp2
              go_ret
              exact ⟨by first | rfl | (simp; done) | (simp [*]; done), by repeat (first | exact Drawn0.refl _ | apply Drawn0.step)⟩
            · rw [if_neg c5] at H
              have c5b0 : decide (300 < (((rd_T34 l0 x3_1).f3).size : Int)) = false := decide_eq_false c5
              have c5b1 : decide (300 < ((rd_T34 l0 x3_1).f3).size) = false := decide_eq_false (by omega)
              clear c5
              have H' := Aside0.mk H
              clear H
              have p213 : 0 ≤ (x3_1 : Int) := of_decide_eq_true (by first | (with_reducible assumption) | assumption)
              have q213 : x3_1 < (l0.length : Int) := of_decide_eq_true (by first | (with_reducible assumption) | assumption)
              obtain ⟨ad213, e213, hx213_0, hx213_1, hx213_2, hx213_3, hx213_4⟩ := at_T34 HR0.out x3_1 p213 q213
              cases e213
              replace p213 := eq_true p213
              replace q213 := eq_true q213
              have p214 : 0 ≤ (x3_1 : Int) := of_decide_eq_true (by first | (with_reducible assumption) | assumption)
              have q214 : x3_1 < (l0.length : Int) := of_decide_eq_true (by first | (with_reducible assumption) | assumption)
              obtain ⟨ad214, e214, hx214_0, hx214_1, hx214_2, hx214_3, hx214_4⟩ := at_T34 HR0.out x3_1 p214 q214
              obtain rfl : ad213 = ad214 := (by injection e214)
              replace p214 := eq_true p214
              replace q214 := eq_true q214
              go_wp2
              go_roundg k1
              case measure => have := HK1.out; omega
              case rel => exact ⟨(wrap64 (x3_1 + 1)), (by first | rfl | (simp; done) | (simp [*]; done)), H', ⟨by have := HK1.out; omega⟩, by repeat (first | exact Drawn0.refl _ | apply Drawn0.step)⟩
        · rw [if_neg c3] at H
          exact absurd H (by simp)
      · rw [if_neg c2] at H
        have c2b0 : decide (x3_1 < (l0.length : Int)) = false := decide_eq_false c2
        clear c2
        obtain rfl := Option.some.inj H
        go_wp2
        go_ret
        exact ⟨by first | rfl | (simp; done) | (simp [*]; done), by repeat (first | exact Drawn0.refl _ | apply Drawn0.step)⟩

end Go.Proofs.Ytphnolgneojdhaa.V

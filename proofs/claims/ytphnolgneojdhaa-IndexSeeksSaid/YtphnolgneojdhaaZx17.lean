-- printed by a program of this session (a changed copy of the kit's printer; squeeze.py)
import Derived.Test.YtphnolgneojdhaaZx0
import Derived.Test.YtphnolgneojdhaaZx15
import Derived.Test.YtphnolgneojdhaaZx16
namespace Go.Proofs.Ytphnolgneojdhaa.Z
open Go.RowKit Go.Proofs.YtphnolgneojdhaaW.PrintWords Go.Proofs.YtphnolgneojdhaaW.PrintLast Go.Proofs.YtphnolgneojdhaaW.PrintMore
attribute [local go_sem] max2_int min2_int max_two min_two max_three min_three max_four min_four   -- for this text's walks alone
set_option linter.unusedVariables false
set_option linter.unusedSimpArgs false
/-! ### cooperageref1_behind: function 48 -/
def cooperageref1_behind.f (k : Nat) (l0 : List Int) (a1 : Int) : Option ((List (S34))) := if a1 < 0 then (if 0 ≤ (l0.length : Int) then ((cooperageref1_Scan.f k (l0.drop 0)).bind fun bt599 => (some bt599.1)) else (none)) else (if a1 > (l0.length : Int) then (if 0 ≤ (l0.length : Int) then ((cooperageref1_Scan.f k (l0.drop 0)).bind fun bt604 => (some bt604.1)) else (none)) else (if 0 ≤ a1 then (if a1 ≤ (l0.length : Int) then ((cooperageref1_Scan.f k (l0.drop (a1 : Int).toNat)).bind fun bt609 => (some bt609.1)) else (none)) else (none)))
theorem cooperageref1_behind.mono : ∀ a0 a1 k, LeO (cooperageref1_behind.f k a0 a1) (cooperageref1_behind.f (k + 1) a0 a1) := by
  intro a0 a1 k
  unfold cooperageref1_behind.f
  repeat' first
      | (with_reducible exact LeO.refl _)
      | (with_reducible exact LeO.none _)
      | (with_reducible refine LeO.ite ?_ ?_)
      | (with_reducible refine LeO.bind ?_ (fun _ => ?_))
      | exact cooperageref1_Scan.mono _ _
      | exact LeO.none _
      | refine LeO.ite ?_ ?_
      | refine LeO.bind ?_ (fun _ => ?_)
set_option maxHeartbeats 8000000 in
set_option maxRecDepth 100000 in
theorem cooperageref1_behind.calls (k : Nat) (A0 : Option Addr) (c0 : Nat) (l0 : List Int) (a1 : Int) (r : List (S34)) (w : World) (hr0 : Kd.C (Kd.int .u8) w A0 l0.length l0) (hc0 : l0.length ≤ c0) (h : cooperageref1_behind.f k l0 a1 = some r) :
    Calls Try.prog 48 #[.slice A0 l0.length c0, .int .i64 a1] w fun e w' => ∃ v0_ : Value, e = .returned (v0_) ∧ Kd.R k34 34 w' w.heap.size (fun _ => True) v0_ r ∧ Below w.heap.size w w' := by
  have HR0 := Aside0.mk hr0
  have HC0 := Aside0.mk hc0
  clear hr0 hc0
  have HB := Aside0.mk (Below.refl w.heap.size w)
  have H : (if a1 < 0 then (if 0 ≤ (l0.length : Int) then ((cooperageref1_Scan.f k (l0.drop 0)).bind fun bt599 => (some bt599.1)) else (none)) else (if a1 > (l0.length : Int) then (if 0 ≤ (l0.length : Int) then ((cooperageref1_Scan.f k (l0.drop 0)).bind fun bt604 => (some bt604.1)) else (none)) else (if 0 ≤ a1 then (if a1 ≤ (l0.length : Int) then ((cooperageref1_Scan.f k (l0.drop (a1 : Int).toNat)).bind fun bt609 => (some bt609.1)) else (none)) else (none)))) = some r := h
  clear h
  by_cases c3 : a1 < 0
  · rw [if_pos c3] at H
    have c3b0 : decide (a1 < 0) = true := decide_eq_true c3
    clear c3
    by_cases c4 : 0 ≤ (l0.length : Int)
    · rw [if_pos c4] at H
      have c4b0 := eq_true c4
      have c4b1 : decide (0 ≤ (l0.length : Int)) = true := decide_eq_true c4
      clear c4
      replace H := Option.bind_eq_some_iff.mp H
      obtain ⟨⟨t599, t600⟩, A50, H⟩ := H
      replace H : (some t599) = some r := H
      have A5 := Aside0.mk A50
      clear A50
      obtain rfl := Option.some.inj H
      obtain ⟨i06, hi06, _, hsz6, _⟩ := info_parts info5
      obtain ⟨A6, hcut6, hA6, hC6⟩ := print_drop_of (P := Try.prog) (Value.int .u8) 0 37 5 .i64 Try.underlying37 hi06 hsz6 A0 c0 l0 0 (by omega) (of_decide_eq_true (by first | (with_reducible assumption) | assumption)) HC0.out
      have HR598 := Aside0.mk (Kd.C_of_reads (h1 := fun _ => rfl) (hA6 _ (Kd.reads_of_C HR0.out)))
      have HC598 := Aside0.mk hC6
      clear hA6 hC6 hi06 hsz6
      go_enter Try.func48, Try.ntmps48
      go_wp2_with (first | ((with_reducible refine gate_callee (f := 21) rfl ?_); refine goesL_ (some 19) rfl rfl Try.func21 (by kernel_rfl) rfl #[.slice A6 (l0.drop 0).length (c0 - 0)] rfl (by (try simp only [List.map_toArray, List.map_cons, List.map_nil]); first | done | (rw [show (l0.drop 0).length = (l0.length - 0) from List.length_drop] <;> rfl) | rfl | (simp only [List.length_drop, List.length_take]; rfl)) ?_; (with_reducible refine (cooperageref1_Scan.calls k _ _ (l0.drop 0) t599 t600 _ ?side1 ?side2 A5.out).mono ?_); (case side1 => repeat (first | exact HR598.out | (with_reducible refine Kd.C_alloc ?_ _) | (with_reducible refine Kd.C_drewN ?_ _) | (with_reducible refine Kd.C_drew ?_))); (case side2 => exact HC598.out); rintro e w7 ⟨v601, rfl, ho0, hb⟩; refine ⟨_, rfl, ?_⟩; have n0_ := Aside0.mk (Kd.RL ho0 (vZ (by repeat (first | (with_reducible first | exact HB.out | apply vA | apply vN | apply vD) | exact HB.out)))); have n1_ := Aside0.mk (vT (by repeat (first | (with_reducible first | exact HB.out | apply vA | apply vN | apply vD) | exact HB.out)) hb); clear HB; have HO602 := n0_; have HB := n1_; clear n0_ n1_; (try clear hb); (try clear hb2); (try clear hk); (try clear hi); (try clear ho0)))
      go_ret
      exact ⟨_, by first | rfl | (simp [*, eN, eS] <;> rfl) | (simp [eN, eS]; generalize ByteArray.toList _ = l_; cases l_ <;> rfl), by (with_reducible repeat (first | apply Kd.RA | apply Kd.RN | apply Kd.RD)); exact HO602.out, by repeat (first | (with_reducible first | exact HB.out | apply vA | apply vN | apply vD) | exact HB.out)⟩
    · rw [if_neg c4] at H
      exact absurd H (by simp)
  · rw [if_neg c3] at H
    have c3b0 : decide (a1 < 0) = false := decide_eq_false c3
    clear c3
    by_cases c8 : a1 > (l0.length : Int)
    · rw [if_pos c8] at H
      have c8b0 : decide ((l0.length : Int) < a1) = true := decide_eq_true c8
      clear c8
      by_cases c9 : 0 ≤ (l0.length : Int)
      · rw [if_pos c9] at H
        have c9b0 := eq_true c9
        have c9b1 : decide (0 ≤ (l0.length : Int)) = true := decide_eq_true c9
        clear c9
        replace H := Option.bind_eq_some_iff.mp H
        obtain ⟨⟨t604, t605⟩, A100, H⟩ := H
        replace H : (some t604) = some r := H
        have A10 := Aside0.mk A100
        clear A100
        obtain rfl := Option.some.inj H
        obtain ⟨i011, hi011, _, hsz11, _⟩ := info_parts info5
        obtain ⟨A11, hcut11, hA11, hC11⟩ := print_drop_of (P := Try.prog) (Value.int .u8) 0 37 5 .i64 Try.underlying37 hi011 hsz11 A0 c0 l0 0 (by omega) (of_decide_eq_true (by first | (with_reducible assumption) | assumption)) HC0.out
        have HR603 := Aside0.mk (Kd.C_of_reads (h1 := fun _ => rfl) (hA11 _ (Kd.reads_of_C HR0.out)))
        have HC603 := Aside0.mk hC11
        clear hA11 hC11 hi011 hsz11
        go_enter Try.func48, Try.ntmps48
        go_wp2_with (first | ((with_reducible refine gate_callee (f := 21) rfl ?_); refine goesL_ (some 19) rfl rfl Try.func21 (by kernel_rfl) rfl #[.slice A11 (l0.drop 0).length (c0 - 0)] rfl (by (try simp only [List.map_toArray, List.map_cons, List.map_nil]); first | done | (rw [show (l0.drop 0).length = (l0.length - 0) from List.length_drop] <;> rfl) | rfl | (simp only [List.length_drop, List.length_take]; rfl)) ?_; (with_reducible refine (cooperageref1_Scan.calls k _ _ (l0.drop 0) t604 t605 _ ?side1 ?side2 A10.out).mono ?_); (case side1 => repeat (first | exact HR603.out | (with_reducible refine Kd.C_alloc ?_ _) | (with_reducible refine Kd.C_drewN ?_ _) | (with_reducible refine Kd.C_drew ?_))); (case side2 => exact HC603.out); rintro e w12 ⟨v606, rfl, ho0, hb⟩; refine ⟨_, rfl, ?_⟩; have n0_ := Aside0.mk (Kd.RL ho0 (vZ (by repeat (first | (with_reducible first | exact HB.out | apply vA | apply vN | apply vD) | exact HB.out)))); have n1_ := Aside0.mk (vT (by repeat (first | (with_reducible first | exact HB.out | apply vA | apply vN | apply vD) | exact HB.out)) hb); clear HB; have HO607 := n0_; have HB := n1_; clear n0_ n1_; (try clear hb); (try clear hb2); (try clear hk); (try clear hi); (try clear ho0)))
        go_ret
        exact ⟨_, by first | rfl | (simp [*, eN, eS] <;> rfl) | (simp [eN, eS]; generalize ByteArray.toList _ = l_; cases l_ <;> rfl), by (with_reducible repeat (first | apply Kd.RA | apply Kd.RN | apply Kd.RD)); exact HO607.out, by repeat (first | (with_reducible first | exact HB.out | apply vA | apply vN | apply vD) | exact HB.out)⟩
      · rw [if_neg c9] at H
        exact absurd H (by simp)
    · rw [if_neg c8] at H
      have c8b0 : decide ((l0.length : Int) < a1) = false := decide_eq_false c8
      clear c8
      by_cases c13 : 0 ≤ a1
      · rw [if_pos c13] at H
        have c13b0 := eq_true c13
        have c13b1 : decide (0 ≤ a1) = true := decide_eq_true c13
        clear c13
        by_cases c14 : a1 ≤ (l0.length : Int)
        · rw [if_pos c14] at H
          have c14b0 := eq_true c14
          have c14b1 : decide (a1 ≤ (l0.length : Int)) = true := decide_eq_true c14
          clear c14
          replace H := Option.bind_eq_some_iff.mp H
          obtain ⟨⟨t609, t610⟩, A150, H⟩ := H
          replace H : (some t609) = some r := H
          have A15 := Aside0.mk A150
          clear A150
          obtain rfl := Option.some.inj H
          obtain ⟨i016, hi016, _, hsz16, _⟩ := info_parts info5
          obtain ⟨A16, hcut16, hA16, hC16⟩ := print_drop_of (P := Try.prog) (Value.int .u8) 0 37 5 .i64 Try.underlying37 hi016 hsz16 A0 c0 l0 a1 (of_decide_eq_true (by first | (with_reducible assumption) | assumption)) (of_decide_eq_true (by first | (with_reducible assumption) | assumption)) HC0.out
          have HR608 := Aside0.mk (Kd.C_of_reads (h1 := fun _ => rfl) (hA16 _ (Kd.reads_of_C HR0.out)))
          have HC608 := Aside0.mk hC16
          clear hA16 hC16 hi016 hsz16
          go_enter Try.func48, Try.ntmps48
          go_wp2_with (first | ((with_reducible refine gate_callee (f := 21) rfl ?_); refine goesL_ (some 19) rfl rfl Try.func21 (by kernel_rfl) rfl #[.slice A16 (l0.drop (a1 : Int).toNat).length (c0 - a1.toNat)] rfl (by (try simp only [List.map_toArray, List.map_cons, List.map_nil]); first | done | (rw [show (l0.drop (a1 : Int).toNat).length = (l0.length - a1.toNat) from List.length_drop] <;> rfl) | rfl | (simp only [List.length_drop, List.length_take]; rfl)) ?_; (with_reducible refine (cooperageref1_Scan.calls k _ _ (l0.drop (a1 : Int).toNat) t609 t610 _ ?side1 ?side2 A15.out).mono ?_); (case side1 => repeat (first | exact HR608.out | (with_reducible refine Kd.C_alloc ?_ _) | (with_reducible refine Kd.C_drewN ?_ _) | (with_reducible refine Kd.C_drew ?_))); (case side2 => exact HC608.out); rintro e w17 ⟨v611, rfl, ho0, hb⟩; refine ⟨_, rfl, ?_⟩; have n0_ := Aside0.mk (Kd.RL ho0 (vZ (by repeat (first | (with_reducible first | exact HB.out | apply vA | apply vN | apply vD) | exact HB.out)))); have n1_ := Aside0.mk (vT (by repeat (first | (with_reducible first | exact HB.out | apply vA | apply vN | apply vD) | exact HB.out)) hb); clear HB; have HO612 := n0_; have HB := n1_; clear n0_ n1_; (try clear hb); (try clear hb2); (try clear hk); (try clear hi); (try clear ho0)))
          go_ret
          exact ⟨_, by first | rfl | (simp [*, eN, eS] <;> rfl) | (simp [eN, eS]; generalize ByteArray.toList _ = l_; cases l_ <;> rfl), by (with_reducible repeat (first | apply Kd.RA | apply Kd.RN | apply Kd.RD)); exact HO612.out, by repeat (first | (with_reducible first | exact HB.out | apply vA | apply vN | apply vD) | exact HB.out)⟩
        · rw [if_neg c14] at H
          exact absurd H (by simp)
      · rw [if_neg c13] at H
        exact absurd H (by simp)
/-! ### cooperageref1_Find: function 29 -/
def cooperageref1_Find.l0 : Nat → Int → List (S34) → Int → Option (Int × Int × ByteArray × ByteArray × Bool × Bool)
  | 0, _, _, _ => none
  | k + 1, x2, x8, x9 => if x9 < (x8.length : Int) then (if 0 ≤ x9 then (if ((rd_T34 x8 x9).f0) ≥ x2 then (some ((rd_T34 x8 x9).f0, (rd_T34 x8 x9).f1, (rd_T34 x8 x9).f2, (rd_T34 x8 x9).f3, (rd_T34 x8 x9).f4, true)) else (cooperageref1_Find.l0 k x2 x8 (wrap64 (x9 + 1)))) else (none)) else (some (0, 0, (⟨#[]⟩ : ByteArray), (⟨#[]⟩ : ByteArray), false, false))
def cooperageref1_Find.f (k : Nat) (l0 : List Int) (l1 : List (S31)) (a2 : Int) : Option (Int × Int × ByteArray × ByteArray × Bool × Bool) := (cooperageref1_Seek.f k l1 a2).bind fun t614 => ((cooperageref1_behind.f k l0 t614).bind fun t615 => (cooperageref1_Find.l0 k a2 t615 0))
theorem cooperageref1_Find.mono_l : ∀ k, (∀ y0 y1 y2, LeO (cooperageref1_Find.l0 k y0 y1 y2) (cooperageref1_Find.l0 (k + 1) y0 y1 y2))
  | 0 => fun _ _ _ r h => by simp [cooperageref1_Find.l0] at h
  | k + 1 => by
    have ih0 := cooperageref1_Find.mono_l k
    · intro y0 y1 y2
      unfold cooperageref1_Find.l0
      repeat' first
      | (with_reducible exact LeO.refl _)
      | (with_reducible exact LeO.none _)
      | (with_reducible refine LeO.ite ?_ ?_)
      | (with_reducible refine LeO.bind ?_ (fun _ => ?_))
      | exact ih0 _ _ _
      | exact cooperageref1_Seek.mono _ _ _
      | exact cooperageref1_behind.mono _ _ _
      | exact LeO.none _
      | refine LeO.ite ?_ ?_
      | refine LeO.bind ?_ (fun _ => ?_)
theorem cooperageref1_Find.mono : ∀ a0 a1 a2 k, LeO (cooperageref1_Find.f k a0 a1 a2) (cooperageref1_Find.f (k + 1) a0 a1 a2) := by
  intro a0 a1 a2 k
  have ih0 := cooperageref1_Find.mono_l k
  unfold cooperageref1_Find.f
  repeat' first
      | (with_reducible exact LeO.refl _)
      | (with_reducible exact LeO.none _)
      | (with_reducible refine LeO.ite ?_ ?_)
      | (with_reducible refine LeO.bind ?_ (fun _ => ?_))
      | exact ih0 _ _ _
      | exact cooperageref1_Seek.mono _ _ _
      | exact cooperageref1_behind.mono _ _ _
      | exact LeO.none _
      | refine LeO.ite ?_ ?_
      | refine LeO.bind ?_ (fun _ => ?_)
set_option maxHeartbeats 8000000 in
set_option maxRecDepth 100000 in
theorem cooperageref1_Find.calls (k : Nat) (A0 : Option Addr) (c0 : Nat) (l0 : List Int) (A1 : Option Addr) (c1 : Nat) (l1 : List (S31)) (a2 : Int) (r1 : Int) (r2 : Int) (r3 : ByteArray) (r4 : ByteArray) (r5 : Bool) (r6 : Bool) (w : World) (hr0 : Kd.C (Kd.int .u8) w A0 l0.length l0) (hc0 : l0.length ≤ c0) (hr1 : Kd.C k31 w A1 l1.length l1) (hc1 : l1.length ≤ c1) (h : cooperageref1_Find.f k l0 l1 a2 = some (r1, r2, r3, r4, r5, r6)) :
    Calls Try.prog 29 #[.slice A0 l0.length c0, .slice A1 l1.length c1, .int .i64 a2] w fun e w' => e = .returned (.tuple #[.agg #[.int .i64 r1, .int .i64 r2, .string r3, .string r4, .bool r5], .bool r6]) ∧ Below w.heap.size w w' := by
  have hu34 := Try.underlying34
  have HR0 := Aside0.mk hr0
  have HC0 := Aside0.mk hc0
  clear hr0 hc0
  have HR1 := Aside0.mk hr1
  have HC1 := Aside0.mk hc1
  clear hr1 hc1
  have HB := Aside0.mk (Below.refl w.heap.size w)
  have H : ((cooperageref1_Seek.f k l1 a2).bind fun t614 => ((cooperageref1_behind.f k l0 t614).bind fun t615 => (cooperageref1_Find.l0 k a2 t615 0))) = some (r1, r2, r3, r4, r5, r6) := h
  clear h
  replace H := Option.bind_eq_some_iff.mp H
  obtain ⟨t614, A40, H⟩ := H
  replace H : ((cooperageref1_behind.f k l0 t614).bind fun t615 => (cooperageref1_Find.l0 k a2 t615 0)) = some (r1, r2, r3, r4, r5, r6) := H
  have A4 := Aside0.mk A40
  clear A40
  replace H := Option.bind_eq_some_iff.mp H
  obtain ⟨t615, A50, H⟩ := H
  replace H : (cooperageref1_Find.l0 k a2 t615 0) = some (r1, r2, r3, r4, r5, r6) := H
  have A5 := Aside0.mk A50
  clear A50
  have H' := Aside0.mk H
  clear H
  go_enter Try.func29, Try.ntmps29
  go_wp2_with (first | ((with_reducible refine gate_dst (N := 6) rfl ?_); refine box_event ?hg (N := 6) ?hd (cs := #[.int .i64 0, .int .i64 0, .string (⟨#[]⟩ : ByteArray), .string (⟨#[]⟩ : ByteArray), .bool false]) (t := 34) ?hr ?_; (case hd => rfl); (case hg => rfl); (case hr => first | (go_simp; done) | (go_simp; rfl)); intro gb613 hg w6 hbox hb; have n0_ := Aside0.mk (vT (by repeat (first | (with_reducible first | exact HB.out | apply vA | apply vN | apply vD) | exact HB.out)) hb); have n1_ := Aside0.mk (hbox); have n2_ := Aside0.mk ((by rw [hg]; exact (vZ (by repeat (first | (with_reducible first | exact HB.out | apply vA | apply vN | apply vD) | exact HB.out))) : w.heap.size ≤ gb613)); have n3_ := Aside0.mk ((by rw [hg]; exact (vZ (by repeat (first | (with_reducible first | exact HB.out | apply vA | apply vN | apply vD) | exact HB.out))) : w.heap.size ≤ gb613)); clear HB; have HB := n0_; have BK613 := n1_; have GW613 := n2_; have GE613 := n3_; clear n0_ n1_ n2_ n3_; clear hb hbox hg) | ((with_reducible refine gate_callee (f := 33) rfl ?_); refine goesL_ (some 13) rfl rfl Try.func33 (by kernel_rfl) rfl #[.slice A1 l1.length c1, .int .i64 a2] rfl (by (try simp only [List.map_toArray, List.map_cons, List.map_nil]); first | done | rfl | (simp only [List.length_drop, List.length_take]; rfl)) ?_; (with_reducible refine (cooperageref1_Seek.calls k _ _ l1 a2 t614 _ ?side1 ?side2 A4.out).mono ?_); (case side1 => repeat (first | exact (Kd.C_below HR1.out HB.out) | (with_reducible refine Kd.C_alloc ?_ _) | (with_reducible refine Kd.C_drewN ?_ _) | (with_reducible refine Kd.C_drew ?_))); (case side2 => exact HC1.out); rintro e w' ⟨rfl, ⟨nd, rfl⟩⟩; refine ⟨_, rfl, ?_⟩) | ((with_reducible refine gate_callee (f := 48) rfl ?_); refine goesL_ (some 14) rfl rfl Try.func48 (by kernel_rfl) rfl #[.slice A0 l0.length c0, .int .i64 t614] rfl (by (try simp only [List.map_toArray, List.map_cons, List.map_nil]); first | done | rfl | (simp only [List.length_drop, List.length_take]; rfl)) ?_; (with_reducible refine (cooperageref1_behind.calls k _ _ l0 t614 t615 _ ?side1 ?side2 A5.out).mono ?_); (case side1 => repeat (first | exact (Kd.C_below HR0.out (by repeat (first | (with_reducible first | exact HB.out | apply vA | apply vN | apply vD | refine vS ?_ GE613.out) | exact HB.out))) | (with_reducible refine Kd.C_alloc ?_ _) | (with_reducible refine Kd.C_drewN ?_ _) | (with_reducible refine Kd.C_drew ?_))); (case side2 => exact HC0.out); rintro e w7 ⟨v616, rfl, ho0, hb⟩; refine ⟨_, rfl, ?_⟩; have n0_ := Aside0.mk (Kd.RL (Kd.R_newB ho0 (g := gb613) (o := .cells #[.int .i64 0, .int .i64 0, .string (⟨#[]⟩ : ByteArray), .string (⟨#[]⟩ : ByteArray), .bool false] 34 (0, 0)) (by (with_reducible repeat (first | refine bN ?_ _ | refine bD ?_ | refine bA ?_ _)); exact BK613.out)) (vZ (by repeat (first | (with_reducible first | exact HB.out | apply vA | apply vN | apply vD | refine vS ?_ GE613.out) | exact HB.out)))); have n1_ := Aside0.mk (bB (g := gb613) (o := .cells #[.int .i64 0, .int .i64 0, .string (⟨#[]⟩ : ByteArray), .string (⟨#[]⟩ : ByteArray), .bool false] 34 (0, 0)) (by (with_reducible repeat (first | refine bN ?_ _ | refine bD ?_ | refine bA ?_ _)); exact BK613.out) hb); have n2_ := Aside0.mk (vT (by repeat (first | (with_reducible first | exact HB.out | apply vA | apply vN | apply vD | refine vS ?_ GE613.out) | exact HB.out)) hb); clear BK613; clear HB; have HO617 := n0_; have BK613 := n1_; have HB := n2_; clear n0_ n1_ n2_; (try clear hb); (try clear hb2); (try clear hk); (try clear hi); (try clear ho0)))
  go_loopg [9] k (fun kq v9 w' => ∃ (x9_1 : Int) (x614000_1 : Int) (x614001_1 : Int) (x614002_1 : ByteArray) (x614003_1 : ByteArray) (x614004_1 : Bool), v9 = .int .i64 x9_1 ∧ Aside0 (cooperageref1_Find.l0 kq a2 t615 x9_1 = some (r1, r2, r3, r4, r5, r6)) ∧ Aside0 (kq ≤ k) ∧ Aside0 (Kd.R k34 34 w' w.heap.size (fun k_ => k_ ≠ gb613) v616 t615) ∧ Aside0 (w'.heap[gb613]? = some (.cells #[.int .i64 x614000_1, .int .i64 x614001_1, .string x614002_1, .string x614003_1, .bool x614004_1] 34 (0, 0))) ∧ Aside0 (Below w.heap.size w w'))
  case atStart => exact ⟨(0), (0), (0), ((⟨#[]⟩ : ByteArray)), ((⟨#[]⟩ : ByteArray)), (false), (by first | rfl | (simp; done) | (simp [*]; done)), H', ⟨Nat.le_refl _⟩, ⟨by (with_reducible repeat (first | apply Kd.RA | apply Kd.RN | apply Kd.RD)); exact Kd.RM HO617.out (fun _ hk => hk.2)⟩, ⟨by (with_reducible repeat (first | refine bN ?_ _ | refine bD ?_ | refine bA ?_ _)); exact BK613.out⟩, ⟨by repeat (first | (with_reducible first | exact HB.out | apply vA | apply vN | apply vD | refine vS ?_ GE613.out) | exact HB.out)⟩⟩
  case round =>
    clear H'
    try clear c1
    try clear c2
    try clear p2
    try clear c3
    try clear c4
    obtain ⟨x9_1, x614000_1, x614001_1, x614002_1, x614003_1, x614004_1, rfl, HA, HK1, HO_8, BK613, HB⟩ := hrel
    cases gk with
    | zero => exact absurd HA.out (by simp [cooperageref1_Find.l0])
    | succ k1 =>
      have H := HA.out
      clear HA
      simp only [cooperageref1_Find.l0] at H
      by_cases c8 : x9_1 < (t615.length : Int)
      · rw [if_pos c8] at H
        have c8b0 : decide (x9_1 < (t615.length : Int)) = true := decide_eq_true c8
        clear c8
        by_cases c9 : 0 ≤ x9_1
        · rw [if_pos c9] at H
          have c9b0 : decide (0 ≤ x9_1) = true := decide_eq_true c9
          clear c9
          by_cases c10 : ((rd_T34 t615 x9_1).f0) ≥ a2
          · rw [if_pos c10] at H
            have c10b0 : decide (a2 ≤ ((rd_T34 t615 x9_1).f0)) = true := decide_eq_true c10
            clear c10
            simp only [Option.some.injEq, Prod.mk.injEq] at H
            obtain ⟨rfl, rfl, rfl, rfl, rfl, rfl⟩ := H
            obtain ⟨Ao11, co11, eo11⟩ := Kd.R_slice HO_8.out
            subst eo11
            have p618 : 0 ≤ (x9_1 : Int) := of_decide_eq_true (by first | (with_reducible assumption) | assumption)
            have q618 : x9_1 < (t615.length : Int) := of_decide_eq_true (by first | (with_reducible assumption) | assumption)
            obtain ⟨ad618, e618, hx618_0, hx618_1, hx618_2, hx618_3, hx618_4⟩ := at_T34 (Kd.R_reads' HO_8.out).2.2 x9_1 p618 q618
            cases e618
            replace p618 := eq_true p618
            replace q618 := eq_true q618
            have p619 : 0 ≤ (x9_1 : Int) := of_decide_eq_true (by first | (with_reducible assumption) | assumption)
            have q619 : x9_1 < (t615.length : Int) := of_decide_eq_true (by first | (with_reducible assumption) | assumption)
            obtain ⟨ad619, e619, hx619_0, hx619_1, hx619_2, hx619_3, hx619_4⟩ := at_T34 (Kd.R_reads' HO_8.out).2.2 x9_1 p619 q619
            obtain rfl : ad618 = ad619 := (by injection e619)
            replace p619 := eq_true p619
            replace q619 := eq_true q619
            have hcz12_0 : wr.cell? ⟨gb613, 0, none⟩ = some (.int .i64 x614000_1) := (bC BK613.out 0).trans rfl
            have hcz12_1 : wr.cell? ⟨gb613, 1, none⟩ = some (.int .i64 x614001_1) := (bC BK613.out 1).trans rfl
            have hcz12_2 : wr.cell? ⟨gb613, 2, none⟩ = some (.string x614002_1) := (bC BK613.out 2).trans rfl
            have hcz12_3 : wr.cell? ⟨gb613, 3, none⟩ = some (.string x614003_1) := (bC BK613.out 3).trans rfl
            have hcz12_4 : wr.cell? ⟨gb613, 4, none⟩ = some (.bool x614004_1) := (bC BK613.out 4).trans rfl
            have hfz12_0 := bF BK613.out 0
            have hfz12_1 := bF BK613.out 1
            have hfz12_2 := bF BK613.out 2
            have hfz12_3 := bF BK613.out 3
            have hfz12_4 := bF BK613.out 4
            go_wp2
            refine bodyPost_ret (results_ct rfl _ _ gb613 34 #[.int .i64 ((rd_T34 t615 x9_1).f0), .int .i64 ((rd_T34 t615 x9_1).f1), .string ((rd_T34 t615 x9_1).f2), .string ((rd_T34 t615 x9_1).f3), .bool ((rd_T34 t615 x9_1).f4)] (0, 0) _ rfl (by (with_reducible repeat (first | refine bN ?_ _ | refine bD ?_ | refine bA ?_ _)); refine bP (cs := #[.int .i64 ((rd_T34 t615 x9_1).f0), .int .i64 ((rd_T34 t615 x9_1).f1), .string ((rd_T34 t615 x9_1).f2), .string ((rd_T34 t615 x9_1).f3), .bool x614004_1]) ?_ 4 _ rfl; (with_reducible repeat (first | refine bN ?_ _ | refine bD ?_ | refine bA ?_ _)); refine bP (cs := #[.int .i64 ((rd_T34 t615 x9_1).f0), .int .i64 ((rd_T34 t615 x9_1).f1), .string ((rd_T34 t615 x9_1).f2), .string x614003_1, .bool x614004_1]) ?_ 3 _ rfl; (with_reducible repeat (first | refine bN ?_ _ | refine bD ?_ | refine bA ?_ _)); refine bP (cs := #[.int .i64 ((rd_T34 t615 x9_1).f0), .int .i64 ((rd_T34 t615 x9_1).f1), .string x614002_1, .string x614003_1, .bool x614004_1]) ?_ 2 _ rfl; (with_reducible repeat (first | refine bN ?_ _ | refine bD ?_ | refine bA ?_ _)); refine bP (cs := #[.int .i64 ((rd_T34 t615 x9_1).f0), .int .i64 x614001_1, .string x614002_1, .string x614003_1, .bool x614004_1]) ?_ 1 _ rfl; (with_reducible repeat (first | refine bN ?_ _ | refine bD ?_ | refine bA ?_ _)); refine bP (cs := #[.int .i64 x614000_1, .int .i64 x614001_1, .string x614002_1, .string x614003_1, .bool x614004_1]) ?_ 0 _ rfl; (with_reducible repeat (first | refine bN ?_ _ | refine bD ?_ | refine bA ?_ _)); exact BK613.out) Try.underlying34 rfl (by kernel_rfl)) rfl ?_
            exact ⟨by first | rfl | (simp [*, eN, eS] <;> rfl) | (simp [eN, eS]; generalize ByteArray.toList _ = l_; cases l_ <;> rfl), by repeat (first | (with_reducible first | exact HB.out | apply vA | apply vN | apply vD | refine vS ?_ GE613.out) | exact HB.out)⟩
          · rw [if_neg c10] at H
            have c10b0 : decide (a2 ≤ ((rd_T34 t615 x9_1).f0)) = false := decide_eq_false c10
            clear c10
            have H' := Aside0.mk H
            clear H
            obtain ⟨Ao13, co13, eo13⟩ := Kd.R_slice HO_8.out
            subst eo13
            have p618 : 0 ≤ (x9_1 : Int) := of_decide_eq_true (by first | (with_reducible assumption) | assumption)
            have q618 : x9_1 < (t615.length : Int) := of_decide_eq_true (by first | (with_reducible assumption) | assumption)
            obtain ⟨ad618, e618, hx618_0, hx618_1, hx618_2, hx618_3, hx618_4⟩ := at_T34 (Kd.R_reads' HO_8.out).2.2 x9_1 p618 q618
            cases e618
            replace p618 := eq_true p618
            replace q618 := eq_true q618
            go_wp2
            go_roundg k1
            case measure => have := HK1.out; omega
            case rel => exact ⟨(wrap64 (x9_1 + 1)), (x614000_1), (x614001_1), (x614002_1), (x614003_1), (x614004_1), (by first | rfl | (simp; done) | (simp [*]; done)), H', ⟨by have := HK1.out; omega⟩, ⟨by (with_reducible repeat (first | apply Kd.RA | apply Kd.RN | apply Kd.RD)); exact HO_8.out⟩, ⟨by (with_reducible repeat (first | refine bN ?_ _ | refine bD ?_ | refine bA ?_ _)); exact BK613.out⟩, ⟨by repeat (first | (with_reducible first | exact HB.out | apply vA | apply vN | apply vD | refine vS ?_ GE613.out) | exact HB.out)⟩⟩
        · rw [if_neg c9] at H
          exact absurd H (by simp)
      · rw [if_neg c8] at H
        have c8b0 : decide (x9_1 < (t615.length : Int)) = false := decide_eq_false c8
        clear c8
        simp only [Option.some.injEq, Prod.mk.injEq] at H
        obtain ⟨rfl, rfl, rfl, rfl, rfl, rfl⟩ := H
        obtain ⟨Ao14, co14, eo14⟩ := Kd.R_slice HO_8.out
        subst eo14
        have hcz15_0 : wr.cell? ⟨gb613, 0, none⟩ = some (.int .i64 x614000_1) := (bC BK613.out 0).trans rfl
        have hcz15_1 : wr.cell? ⟨gb613, 1, none⟩ = some (.int .i64 x614001_1) := (bC BK613.out 1).trans rfl
        have hcz15_2 : wr.cell? ⟨gb613, 2, none⟩ = some (.string x614002_1) := (bC BK613.out 2).trans rfl
        have hcz15_3 : wr.cell? ⟨gb613, 3, none⟩ = some (.string x614003_1) := (bC BK613.out 3).trans rfl
        have hcz15_4 : wr.cell? ⟨gb613, 4, none⟩ = some (.bool x614004_1) := (bC BK613.out 4).trans rfl
        have hfz15_0 := bF BK613.out 0
        have hfz15_1 := bF BK613.out 1
        have hfz15_2 := bF BK613.out 2
        have hfz15_3 := bF BK613.out 3
        have hfz15_4 := bF BK613.out 4
        go_wp2
        refine bodyPost_ret (results_ct rfl _ _ gb613 34 #[.int .i64 0, .int .i64 0, .string (⟨#[]⟩ : ByteArray), .string (⟨#[]⟩ : ByteArray), .bool false] (0, 0) _ rfl (by (with_reducible repeat (first | refine bN ?_ _ | refine bD ?_ | refine bA ?_ _)); refine bP (cs := #[.int .i64 0, .int .i64 0, .string (⟨#[]⟩ : ByteArray), .string (⟨#[]⟩ : ByteArray), .bool x614004_1]) ?_ 4 _ rfl; (with_reducible repeat (first | refine bN ?_ _ | refine bD ?_ | refine bA ?_ _)); refine bP (cs := #[.int .i64 0, .int .i64 0, .string (⟨#[]⟩ : ByteArray), .string x614003_1, .bool x614004_1]) ?_ 3 _ rfl; (with_reducible repeat (first | refine bN ?_ _ | refine bD ?_ | refine bA ?_ _)); refine bP (cs := #[.int .i64 0, .int .i64 0, .string x614002_1, .string x614003_1, .bool x614004_1]) ?_ 2 _ rfl; (with_reducible repeat (first | refine bN ?_ _ | refine bD ?_ | refine bA ?_ _)); refine bP (cs := #[.int .i64 0, .int .i64 x614001_1, .string x614002_1, .string x614003_1, .bool x614004_1]) ?_ 1 _ rfl; (with_reducible repeat (first | refine bN ?_ _ | refine bD ?_ | refine bA ?_ _)); refine bP (cs := #[.int .i64 x614000_1, .int .i64 x614001_1, .string x614002_1, .string x614003_1, .bool x614004_1]) ?_ 0 _ rfl; (with_reducible repeat (first | refine bN ?_ _ | refine bD ?_ | refine bA ?_ _)); exact BK613.out) Try.underlying34 rfl (by kernel_rfl)) rfl ?_
        exact ⟨by first | rfl | (simp [*, eN, eS] <;> rfl) | (simp [eN, eS]; generalize ByteArray.toList _ = l_; cases l_ <;> rfl), by repeat (first | (with_reducible first | exact HB.out | apply vA | apply vN | apply vD | refine vS ?_ GE613.out) | exact HB.out)⟩

/-! ### index_SeekTime: function 34 -/
def index_SeekTime.p (a : Int) (m : S36) : Bool := decide (m.f1 < a)
theorem index_SeekTime_1.calls (x0 x1 x2 : Int) (B : Nat) (a : Int) (w : World) (hB : w.cell? ⟨B, 0, none⟩ = some (.int .i64 a)) :
    Calls Try.prog 52 #[.agg #[.int .i64 x0, .int .i64 x1, .int .i64 x2], .pointer (some ⟨B, 0, none⟩)] w fun e w' => e = .returned (.bool (decide (x1 < a))) ∧ Below w.heap.size w w' := by
  have hu36 := Try.underlying36
  have hlt := World.block_lt_of_cell? w _ hB
  go_enter Try.func52, Try.ntmps52
  go_wp2
  go_ret
  exact ⟨rfl, (Below.refl _ w).alloc (Nat.le_refl _) _⟩
set_option maxHeartbeats 8000000 in
set_option maxRecDepth 100000 in
theorem index_SeekTime.last (A0 : Option Addr) (c0 : Nat) (l0 : List S36) (B : Nat) (a r : Int) (w : World) (hr0 : Kd.C k36 w A0 l0.length l0) (hc0 : l0.length ≤ c0) (hB : w.cell? ⟨B, 0, none⟩ = some (.int .i64 a)) (hr : lastAt (index_SeekTime.p a) l0 l0.length = r) :
    Calls Try.prog 50 #[.slice A0 l0.length c0, .func (.func 52) #[] #[.pointer (some ⟨B, 0, none⟩)]] w fun e w' => e = .returned (.int .i64 r) ∧ Below w.heap.size w w' := by
  have hu36 := Try.underlying36
  have hmax : l0.length ≤ 9223372036854775807 := hr0.2.1
  have hlt := World.block_lt_of_cell? w _ hB
  have HR0 := Aside0.mk hr0
  have HC0 := Aside0.mk hc0
  have HC := Aside0.mk hB
  have HR := Aside0.mk hr
  clear hr0 hc0 hB hr
  have HB := Aside0.mk (Below.refl w.heap.size w)
  go_enter Try.func50, Try.ntmps50
  go_wp2
  go_loopg [5] l0.length (fun kq v5 w' => v5 = .int .i64 ((kq : Int) - 1) ∧ Aside0 (kq ≤ l0.length) ∧ Aside0 (lastAt (index_SeekTime.p a) l0 kq = r) ∧ Aside0 (Below w.heap.size w w'))
  case atStart => exact ⟨by first | rfl | (simp; done), ⟨Nat.le_refl _⟩, HR, HB⟩
  case round =>
    obtain ⟨rfl, HK, HA, HB⟩ := hrel
    cases gk with
    | zero =>
      have h0 := HA.out
      simp only [lastAt] at h0
      subst h0
      go_wp2
      go_ret
      exact ⟨rfl, HB.out⟩
    | succ k1 =>
      have e1 : (((k1 + 1 : Nat) : Int) - 1) = (k1 : Int) := by omega
      rw [e1]
      have hk1 := HK.out
      have p1 : (0 : Int) ≤ (k1 : Int) := by omega
      have q1 : (k1 : Int) < (l0.length : Int) := by omega
      have h0 := HA.out
      simp only [lastAt] at h0
      obtain ⟨ad, ead, hx0, hx1, hx2⟩ := at_T36 HR0.out (k1 : Int) p1 q1
      cases ead
      simp only [Int.toNat_natCast] at hx0 hx1 hx2
      generalize rd_T36 l0 (k1 : Int) = m at *
      obtain ⟨m0, m1, m2⟩ := m
      have hy2 := Aside0.mk hx2
      replace hx0 := (HB.out.cell (World.block_lt_of_cell? w _ hx0)).trans hx0
      replace hx1 := (HB.out.cell (World.block_lt_of_cell? w _ hx1)).trans hx1
      replace hx2 := (HB.out.cell (World.block_lt_of_cell? w _ hx2)).trans hx2
      by_cases ct : m1 < a
      · have ctd := decide_eq_true ct
        rw [if_pos (show index_SeekTime.p a ⟨m0, m1, m2⟩ = true from ctd)] at h0
        subst h0
        clear hk1 HK HA
        go_wp2_with (first | (go_at_call 52; (with_reducible refine (index_SeekTime_1.calls m0 m1 m2 B a _ ?side1).mono ?_); (case side1 => exact (HB.out.cell hlt).trans HC.out); rintro e w2 ⟨rfl, hb⟩; have HB2 := Aside0.mk (vT HB.out hb); (replace hx2 := (HB2.out.cell (World.block_lt_of_cell? w _ hy2.out)).trans hy2.out); clear hb; rw [ctd]))
        go_ret
        exact ⟨rfl, HB2.out⟩
      · have ctd := decide_eq_false ct
        rw [if_neg (show ¬ (index_SeekTime.p a ⟨m0, m1, m2⟩ = true) from fun c => ct (of_decide_eq_true c))] at h0
        have H0 := Aside0.mk h0
        have HK1 := Aside0.mk hk1
        clear h0 hk1 HK HA
        go_wp2_with (first | (go_at_call 52; (with_reducible refine (index_SeekTime_1.calls m0 m1 m2 B a _ ?side1).mono ?_); (case side1 => exact (HB.out.cell hlt).trans HC.out); rintro e w2 ⟨rfl, hb⟩; have HB2 := Aside0.mk (vT HB.out hb); clear hb; rw [ctd]))
        go_roundg k1
        case measure => omega
        case rel => exact ⟨by first | rfl | (simp; done), ⟨by have := HK1.out; omega⟩, H0, HB2⟩
def index_SeekTime.f (l0 : List (S36)) (a1 : Int) : Option (Int) := some (lastAt (index_SeekTime.p a1) l0 l0.length)
set_option maxHeartbeats 8000000 in
set_option maxRecDepth 100000 in
theorem index_SeekTime.calls (A0 : Option Addr) (c0 : Nat) (l0 : List (S36)) (a1 : Int) (r : Int) (w : World) (hr0 : Kd.C k36 w A0 l0.length l0) (hc0 : l0.length ≤ c0) (h : index_SeekTime.f l0 a1 = some r) :
    Calls Try.prog 34 #[.slice A0 l0.length c0, .int .i64 a1] w fun e w' => e = .returned (.int .i64 r) ∧ Below w.heap.size w w' := by
  have hr := Option.some.inj h
  have HR0 := Aside0.mk hr0
  have HC0 := Aside0.mk hc0
  have HR := Aside0.mk hr
  clear hr0 hc0 hr h
  have hmf : ∀ (fn : Fn) (first cap : Array Value) (w : World), (Instr.makeFunc fn first cap).run Try.prog w = .ok (.func fn first cap) w := fun _ _ _ _ => rfl
  have hB0 := Aside0.mk (vA (Below.refl w.heap.size w) (.cells #[.int .i64 a1] 3))
  go_enter Try.func34, Try.ntmps34
  go_wp2_with (first | (go_at_call 50; (with_reducible refine (index_SeekTime.last A0 c0 l0 w.heap.size a1 r (w.alloc (.cells #[.int .i64 a1] 3)) ?side1 HC0.out ?side2 HR.out).mono ?_); (case side1 => exact Kd.C_alloc HR0.out _); (case side2 => simp); rintro e w2 ⟨rfl, hb⟩; have HB2 := Aside0.mk (vT hB0.out hb); clear hb))
  go_ret
  exact ⟨rfl, HB2.out⟩


end Go.Proofs.Ytphnolgneojdhaa.Z

-- printed by a program of this session (a changed copy of the kit's printer)
import Derived.Test.YtphnolgneojdhaaSx0
import Derived.Test.YtphnolgneojdhaaSx18
namespace Go.Proofs.Ytphnolgneojdhaa.S
open Go.RowKit Go.Proofs.YtphnolgneojdhaaW.PrintWords Go.Proofs.YtphnolgneojdhaaW.PrintLast Go.Proofs.YtphnolgneojdhaaW.PrintMore
attribute [local go_sem] max2_int min2_int max_two min_two max_three min_three max_four min_four   -- for this text's walks alone
set_option linter.unusedVariables false
set_option linter.unusedSimpArgs false

/-! ### record_reader_text: function 63 -/
def record_reader_text.j0 : Nat → Int → Bool → List Int → Int → Int → Option (ByteArray × Int × Int)
  | 0, _, _, _, _, _ => none
  | k + 1, x5, x28, x1000, x1001, x1002 => if x28 = true then (some ((⟨#[]⟩ : ByteArray), x1001, 4)) else (if x1002 = 0 then (if 0 ≤ (wrap64 ((wrap64 (x1001 + x5)) - x5)) then (if (wrap64 ((wrap64 (x1001 + x5)) - x5)) ≤ (wrap64 (x1001 + x5)) then (if (wrap64 (x1001 + x5)) ≤ (x1000.length : Int) then (some (strOfNums ((x1000.take ((wrap64 (x1001 + x5)) : Int).toNat).drop ((wrap64 ((wrap64 (x1001 + x5)) - x5)) : Int).toNat), wrap64 (x1001 + x5), x1002)) else (none)) else (none)) else (none)) else (some ((⟨#[]⟩ : ByteArray), x1001, x1002)))
def record_reader_text.f (k : Nat) (s0_0 : List Int) (s0_1 : Int) (s0_2 : Int) (a1 : Int) : Option (ByteArray × Int × Int) := (record_reader_number.f k s0_0 s0_1 s0_2 a1).bind fun bt365 => (if bt365.2.2 = 0 then (record_reader_text.j0 k (wrap64 (bt365.1)) (decide ((wrap64 (bt365.1)) > (wrap64 ((s0_0.length : Int) - bt365.2.1)))) s0_0 bt365.2.1 bt365.2.2) else (record_reader_text.j0 k (wrap64 (bt365.1)) false s0_0 bt365.2.1 bt365.2.2))
theorem record_reader_text.mono_l : ∀ k, (∀ y0 y1 y2 y3 y4, LeO (record_reader_text.j0 k y0 y1 y2 y3 y4) (record_reader_text.j0 (k + 1) y0 y1 y2 y3 y4))
  | 0 => fun _ _ _ _ _ r h => by simp [record_reader_text.j0] at h
  | k + 1 => by
    have ih0 := record_reader_text.mono_l k
    · intro y0 y1 y2 y3 y4
      unfold record_reader_text.j0
      repeat' first
      | (with_reducible exact ih0 _ _ _ _ _)
      | (with_reducible exact record_reader_number.mono _ _ _ _ _)
      | (with_reducible exact LeO.refl _)
      | (with_reducible exact LeO.none _)
      | (with_reducible refine LeO.ite ?_ ?_)
      | (with_reducible refine LeO.bind ?_ (fun _ => ?_))
      | exact ih0 _ _ _ _ _
      | exact record_reader_number.mono _ _ _ _ _
      | exact LeO.none _
      | refine LeO.ite ?_ ?_
      | refine LeO.bind ?_ (fun _ => ?_)
theorem record_reader_text.mono : ∀ a0 a1 a2 a3 k, LeO (record_reader_text.f k a0 a1 a2 a3) (record_reader_text.f (k + 1) a0 a1 a2 a3) := by
  intro a0 a1 a2 a3 k
  have ih0 := record_reader_text.mono_l k
  unfold record_reader_text.f
  repeat' first
      | (with_reducible exact ih0 _ _ _ _ _)
      | (with_reducible exact record_reader_number.mono _ _ _ _ _)
      | (with_reducible exact LeO.refl _)
      | (with_reducible exact LeO.none _)
      | (with_reducible refine LeO.ite ?_ ?_)
      | (with_reducible refine LeO.bind ?_ (fun _ => ?_))
      | exact ih0 _ _ _ _ _
      | exact record_reader_number.mono _ _ _ _ _
      | exact LeO.none _
      | refine LeO.ite ?_ ?_
      | refine LeO.bind ?_ (fun _ => ?_)
set_option maxHeartbeats 8000000 in
set_option maxRecDepth 100000 in
theorem record_reader_text.calls (k : Nat) (g : Nat) (s0_0 : List Int) (s0_1 : Int) (s0_2 : Int) (a1 : Int) (r1 : ByteArray) (r2 : Int) (r3 : Int) (w0 w : World) (hI : IsS84 w0 w g s0_0 s0_1 s0_2) (hB : Below w0.heap.size w0 w) (h : record_reader_text.f k s0_0 s0_1 s0_2 a1 = some (r1, r2, r3)) :
    Calls Try.prog 63 #[.pointer (some ⟨g, 0, none⟩), .int .u64 a1] w fun e w' => e = .returned (.string r1) ∧ IsS84 w0 w' g s0_0 r2 r3 ∧ Below w0.heap.size w0 w' ∧ KeepBut w w' g none := by
  have HI0 := Aside0.mk hI
  have HK := Aside0.mk (KeepBut.refl w g none)
  have HL := Aside0.mk hB.size
  clear hI
  have HW0 := Aside0.mk hB.size
  have HB := Aside0.mk hB
  have HBE := Aside0.mk hB
  clear hB
  have H : ((record_reader_number.f k s0_0 s0_1 s0_2 a1).bind fun bt365 => (if bt365.2.2 = 0 then (record_reader_text.j0 k (wrap64 (bt365.1)) (decide ((wrap64 (bt365.1)) > (wrap64 ((s0_0.length : Int) - bt365.2.1)))) s0_0 bt365.2.1 bt365.2.2) else (record_reader_text.j0 k (wrap64 (bt365.1)) false s0_0 bt365.2.1 bt365.2.2))) = some (r1, r2, r3) := h
  clear h
  replace H := Option.bind_eq_some_iff.mp H
  obtain ⟨⟨t365, t366, t367⟩, A30, H⟩ := H
  replace H : (if t367 = 0 then (record_reader_text.j0 k (wrap64 (t365)) (decide ((wrap64 (t365)) > (wrap64 ((s0_0.length : Int) - t366)))) s0_0 t366 t367) else (record_reader_text.j0 k (wrap64 (t365)) false s0_0 t366 t367)) = some (r1, r2, r3) := H
  have A3 := Aside0.mk A30
  clear A30
  have HC4 := Aside0.mk H
  clear H
  go_enter Try.func63, Try.ntmps63
  go_upto_region 2 with (first | (go_at_call 60; (with_reducible refine (record_reader_number.calls k g s0_0 s0_1 s0_2 a1 t365 t366 t367 w0 _ ?side1 ?side2 A3.out).mono ?_); (case side1 => repeat (first | (with_reducible first | exact HI0.out | apply IsS84.alloc | apply IsS84.drewN | apply IsS84.drew | apply IsS84.set_1 | apply IsS84.set_2) | exact HI0.out)); (case side2 => repeat (first | (with_reducible first | exact HB.out | apply below_alloc | apply pw_below_drewN | apply below_drew1 | refine below_set ?_ (IsS84.ge HI0.out)) | exact HB.out)); rintro e w5 ⟨rfl, hi, hb, hk⟩; have n0_ := Aside0.mk (KeepBut.trans (by repeat (first | (with_reducible first | exact HK.out | apply KeepBut.set_ | apply keep_drewN | apply keep_drew | apply keep_alloc) | exact HK.out)) hk (.inl rfl)); have n1_ := Aside0.mk (hb); have n2_ := Aside0.mk (hi); clear HK; clear HB; clear HI0; have HK := n0_; have HB := n1_; have HI0 := n2_; clear n0_ n1_ n2_; (try clear hb); (try clear hb2); (try clear hk); (try clear hi)))
  repeat (go_quiet (first | (go_at_call 60; (with_reducible refine (record_reader_number.calls k g s0_0 s0_1 s0_2 a1 t365 t366 t367 w0 _ ?side1 ?side2 A3.out).mono ?_); (case side1 => repeat (first | (with_reducible first | exact HI0.out | apply IsS84.alloc | apply IsS84.drewN | apply IsS84.drew | apply IsS84.set_1 | apply IsS84.set_2) | exact HI0.out)); (case side2 => repeat (first | (with_reducible first | exact HB.out | apply below_alloc | apply pw_below_drewN | apply below_drew1 | refine below_set ?_ (IsS84.ge HI0.out)) | exact HB.out)); rintro e w5 ⟨rfl, hi, hb, hk⟩; have n0_ := Aside0.mk (KeepBut.trans (by repeat (first | (with_reducible first | exact HK.out | apply KeepBut.set_ | apply keep_drewN | apply keep_drew | apply keep_alloc) | exact HK.out)) hk (.inl rfl)); have n1_ := Aside0.mk (hb); have n2_ := Aside0.mk (hi); clear HK; clear HB; clear HI0; have HK := n0_; have HB := n1_; have HI0 := n2_; clear n0_ n1_ n2_; (try clear hb); (try clear hb2); (try clear hk); (try clear hi))); go_upto_region 2 with (first | (go_at_call 60; (with_reducible refine (record_reader_number.calls k g s0_0 s0_1 s0_2 a1 t365 t366 t367 w0 _ ?side1 ?side2 A3.out).mono ?_); (case side1 => repeat (first | (with_reducible first | exact HI0.out | apply IsS84.alloc | apply IsS84.drewN | apply IsS84.drew | apply IsS84.set_1 | apply IsS84.set_2) | exact HI0.out)); (case side2 => repeat (first | (with_reducible first | exact HB.out | apply below_alloc | apply pw_below_drewN | apply below_drew1 | refine below_set ?_ (IsS84.ge HI0.out)) | exact HB.out)); rintro e w5 ⟨rfl, hi, hb, hk⟩; have n0_ := Aside0.mk (KeepBut.trans (by repeat (first | (with_reducible first | exact HK.out | apply KeepBut.set_ | apply keep_drewN | apply keep_drew | apply keep_alloc) | exact HK.out)) hk (.inl rfl)); have n1_ := Aside0.mk (hb); have n2_ := Aside0.mk (hi); clear HK; clear HB; clear HI0; have HK := n0_; have HB := n1_; have HI0 := n2_; clear n0_ n1_ n2_; (try clear hb); (try clear hb2); (try clear hk); (try clear hi))))
  (try simp only [Act.put, List.setIfInBounds_toArray, List.set_cons_zero, List.set_cons_succ])
  go_cut [28] (fun v28 wc => ∃ (kq : Nat) (x28_3 : Bool), v28 = .bool x28_3 ∧ Aside0 (record_reader_text.j0 kq (wrap64 (t365)) x28_3 s0_0 t366 t367 = some (r1, r2, r3)) ∧ Aside0 (kq ≤ k) ∧ Aside0 (IsS84 w0 wc g s0_0 t366 t367) ∧ Aside0 (KeepBut w wc g none) ∧ Aside0 (Below w0.heap.size w0 wc))
  case first =>
    have H := HC4.out
    clear HC4
    by_cases c6 : t367 = 0
    · rw [if_pos c6] at H
      have c6b0 : (t367 == 0) = true := beq_iff_eq.mpr c6
      have c6b1 : (t367 != 0) = false := bne_eq_false_iff_eq.mpr c6
      clear c6
      (first | rw [c6b0] | (simp only [i64_w, i32_w]; rw [c6b0]) | skip)
      have H' := Aside0.mk H
      clear H
      obtain ⟨ASz7_0, cSz7_0, HGz7, hgz7, HSz7_0⟩ := HI0.out
      have hcz7_0 := cellS84_0 HGz7
      have hcz7_1 := cellS84_1 HGz7
      have hcz7_2 := cellS84_2 HGz7
      have hfz7_1 := blk_frozen HGz7 1
      have hfz7_2 := blk_frozen HGz7 2
      clear HGz7 hgz7
      go_wp2
      repeat (go_quiet (fail); try go_wp2)
      go_meet
      case rel => exact ⟨_, (decide ((wrap64 (t365)) > (wrap64 ((s0_0.length : Int) - t366)))), (by first | rfl | (simp; done) | (simp [*]; done)), H', ⟨by first | omega | exact Nat.le_refl _⟩, ⟨by repeat (first | (with_reducible first | exact HI0.out | apply IsS84.alloc | apply IsS84.drewN | apply IsS84.drew | apply IsS84.set_1 | apply IsS84.set_2) | exact HI0.out)⟩, ⟨by repeat (first | (with_reducible first | exact HK.out | apply KeepBut.set_ | apply keep_drewN | apply keep_drew | apply keep_alloc) | exact HK.out)⟩, ⟨by repeat (first | (with_reducible first | exact HB.out | apply below_alloc | apply pw_below_drewN | apply below_drew1 | refine below_set ?_ (IsS84.ge HI0.out)) | exact HB.out)⟩⟩
    · rw [if_neg c6] at H
      have c6b0 : (t367 == 0) = false := beq_eq_false_iff_ne.mpr c6
      have c6b1 : (t367 != 0) = true := bne_iff_ne.mpr c6
      (first | rw [c6b0] | (simp only [i64_w, i32_w]; rw [c6b0]) | skip)
      have H' := Aside0.mk H
      clear H
      obtain ⟨ASz8_0, cSz8_0, HGz8, hgz8, HSz8_0⟩ := HI0.out
      have hcz8_0 := cellS84_0 HGz8
      have hcz8_1 := cellS84_1 HGz8
      have hcz8_2 := cellS84_2 HGz8
      have hfz8_1 := blk_frozen HGz8 1
      have hfz8_2 := blk_frozen HGz8 2
      clear HGz8 hgz8
      go_wp2
      repeat (go_quiet (fail); try go_wp2)
      go_meet
      case rel => exact ⟨_, (false), (by first | rfl | (simp; done) | (simp [*]; done)), H', ⟨by first | omega | exact Nat.le_refl _⟩, ⟨by repeat (first | (with_reducible first | exact HI0.out | apply IsS84.alloc | apply IsS84.drewN | apply IsS84.drew | apply IsS84.set_1 | apply IsS84.set_2) | exact HI0.out)⟩, ⟨by repeat (first | (with_reducible first | exact HK.out | apply KeepBut.set_ | apply keep_drewN | apply keep_drew | apply keep_alloc) | exact HK.out)⟩, ⟨by repeat (first | (with_reducible first | exact HB.out | apply below_alloc | apply pw_below_drewN | apply below_drew1 | refine below_set ?_ (IsS84.ge HI0.out)) | exact HB.out)⟩⟩
  case rest =>
    clear HC4
    try clear p2
    try clear c6
    try clear c6b0
    try clear c6b1
    try clear p6
    try clear hcz7_0
    try clear hcz7_1
    try clear hcz7_2
    try clear hcz8_0
    try clear hcz8_1
    try clear hcz8_2
    try clear hfz7_1
    try clear hfz7_2
    try clear hfz8_1
    try clear hfz8_2
    obtain ⟨kq, x28_3, rfl, HA, HJ3, HI0, HK, HB⟩ := hcut
    cases kq with
    | zero => exact absurd HA.out (by simp [record_reader_text.j0])
    | succ kj3 =>
      have H := HA.out
      clear HA
      simp only [record_reader_text.j0] at H
      by_cases c9 : x28_3 = true
      · subst c9
        have H1 : (some ((⟨#[]⟩ : ByteArray), t366, 4)) = some (r1, r2, r3) := by rw [if_pos rfl] at H; exact H
        clear H
        have H := H1
        clear H1
        simp only [Option.some.injEq, Prod.mk.injEq] at H
        obtain ⟨rfl, rfl, rfl⟩ := H
        obtain ⟨ASz10_0, cSz10_0, HGz10, hgz10, HSz10_0⟩ := HI0.out
        have hcz10_0 := cellS84_0 HGz10
        have hcz10_1 := cellS84_1 HGz10
        have hcz10_2 := cellS84_2 HGz10
        have hfz10_1 := blk_frozen HGz10 1
        have hfz10_2 := blk_frozen HGz10 2
        clear HGz10 hgz10
        go_wp2
        repeat (go_quiet (fail); try go_wp2)
        go_ret
        exact ⟨by first | rfl | (simp [errW_none, errW_some] <;> rfl) | (simp [*, errW_none, errW_some] <;> rfl) | (simp [errW_none, errW_some]; generalize ByteArray.toList _ = l_; cases l_ <;> rfl), by repeat (first | (with_reducible first | exact HI0.out | apply IsS84.alloc | apply IsS84.drewN | apply IsS84.drew | apply IsS84.set_1 | apply IsS84.set_2) | exact HI0.out), by repeat (first | (with_reducible first | exact HB.out | apply below_alloc | apply pw_below_drewN | apply below_drew1 | refine below_set ?_ (IsS84.ge HI0.out)) | exact HB.out), by repeat (first | (with_reducible first | exact HK.out | apply KeepBut.set_ | apply keep_drewN | apply keep_drew | apply keep_alloc) | exact HK.out)⟩
      · replace c9 := Bool.eq_false_iff.mpr c9
        subst c9
        have H1 : (if t367 = 0 then (if 0 ≤ (wrap64 ((wrap64 (t366 + (wrap64 (t365)))) - (wrap64 (t365)))) then (if (wrap64 ((wrap64 (t366 + (wrap64 (t365)))) - (wrap64 (t365)))) ≤ (wrap64 (t366 + (wrap64 (t365)))) then (if (wrap64 (t366 + (wrap64 (t365)))) ≤ (s0_0.length : Int) then (some (strOfNums ((s0_0.take ((wrap64 (t366 + (wrap64 (t365)))) : Int).toNat).drop ((wrap64 ((wrap64 (t366 + (wrap64 (t365)))) - (wrap64 (t365)))) : Int).toNat), wrap64 (t366 + (wrap64 (t365))), t367)) else (none)) else (none)) else (none)) else (some ((⟨#[]⟩ : ByteArray), t366, t367))) = some (r1, r2, r3) := by rw [if_neg (show ¬ (false = true) by decide)] at H; exact H
        clear H
        have H := H1
        clear H1
        by_cases c11 : t367 = 0
        · rw [if_pos c11] at H
          have c11b0 : (t367 == 0) = true := beq_iff_eq.mpr c11
          have c11b1 : (t367 != 0) = false := bne_eq_false_iff_eq.mpr c11
          clear c11
          obtain ⟨ji12, hji12⟩ : ∃ j_ : Int, (wrap64 ((wrap64 (t366 + (wrap64 (t365)))) - (wrap64 (t365)))) = j_ := ⟨_, rfl⟩
          replace H : (if 0 ≤ (ji12) then (if (ji12) ≤ (wrap64 (t366 + (wrap64 (t365)))) then (if (wrap64 (t366 + (wrap64 (t365)))) ≤ (s0_0.length : Int) then (some (strOfNums ((s0_0.take ((wrap64 (t366 + (wrap64 (t365)))) : Int).toNat).drop ((ji12) : Int).toNat), wrap64 (t366 + (wrap64 (t365))), t367)) else (none)) else (none)) else (none)) = some (r1, r2, r3) := by first | (rw [hji12] at H; exact H) | (simp only [hji12] at H ⊢; exact H)
          have hji12w : (IntKind.i64.wrap ((wrap64 (t366 + (wrap64 (t365)))) - (wrap64 (t365)))) = ji12 := (i64_w _).trans hji12
          by_cases c13 : 0 ≤ (ji12)
          · rw [if_pos c13] at H
            have c13b0 := eq_true c13
            have c13b1 : decide (0 ≤ (ji12)) = true := decide_eq_true c13
            clear c13
            by_cases c14 : (ji12) ≤ (wrap64 (t366 + (wrap64 (t365))))
            · rw [if_pos c14] at H
              have c14b0 := eq_true c14
              have c14b1 : decide ((ji12) ≤ (wrap64 (t366 + (wrap64 (t365))))) = true := decide_eq_true c14
              by_cases c15 : (wrap64 (t366 + (wrap64 (t365)))) ≤ (s0_0.length : Int)
              · rw [if_pos c15] at H
                have c15b0 := eq_true c15
                have c15b1 : decide ((wrap64 (t366 + (wrap64 (t365)))) ≤ (s0_0.length : Int)) = true := decide_eq_true c15
                simp only [Option.some.injEq, Prod.mk.injEq] at H
                obtain ⟨rfl, rfl, rfl⟩ := H
                obtain ⟨ASz16_0, cSz16_0, HGz16, hgz16, HSz16_0⟩ := HI0.out
                have hcz16_0 := cellS84_0 HGz16
                have hcz16_1 := cellS84_1 HGz16
                have hcz16_2 := cellS84_2 HGz16
                have hfz16_1 := blk_frozen HGz16 1
                have hfz16_2 := blk_frozen HGz16 2
                clear HGz16 hgz16
                obtain ⟨i017, hi017, _, hsz17, _⟩ := info_parts info5
                obtain ⟨A17, hcut17, hA17, hC17⟩ := print_mid_of (P := Try.prog) (Value.int .u8) 0 37 5 .i64 .i64 Try.underlying37 hi017 hsz17 ASz16_0 cSz16_0 s0_0 (ji12) (wrap64 (t366 + (wrap64 (t365)))) (of_decide_eq_true (by first | (with_reducible assumption) | assumption)) (by first | omega | exact of_decide_eq_true (by first | (with_reducible assumption) | assumption)) (of_decide_eq_true (by first | (with_reducible assumption) | assumption)) HSz16_0.1
                have HR368 := Aside0.mk (Kd.C_of_reads (h1 := fun _ => rfl) (hA17 _ (Kd.reads_of_C (Kd.C_below HSz16_0.2 HBE.out))))
                have HC368 := Aside0.mk hC17
                have hf368 : ∀ ad : Addr, A17 = some ad → 0 < ((s0_0.take ((wrap64 (t366 + (wrap64 (t365)))) : Int).toNat).drop ((ji12) : Int).toNat).length → ad.block ≠ g := Kd.far_C 0 (Kd.C_of_reads (h1 := fun _ => rfl) (hA17 _ (Kd.reads_of_C HSz16_0.2))) (IsS84.ge HI0.out)
                clear hA17 hC17 hi017 hsz17
                have hcv18 := Kd.C_string (P := Try.prog) (A := A17) (c := (cSz16_0 - (ji12).toNat)) Try.underlying37 Try.underlying5 Try.underlying9 (show Kd.C (Kd.int .u8) (wc.setCell ⟨g, 1, none⟩ (.int .i64 (wrap64 (t366 + (wrap64 (t365)))))) A17 ((s0_0.take ((wrap64 (t366 + (wrap64 (t365)))) : Int).toNat).drop ((ji12) : Int).toNat).length ((s0_0.take ((wrap64 (t366 + (wrap64 (t365)))) : Int).toNat).drop ((ji12) : Int).toNat) from (Kd.C_keep 0 HR368.out (by repeat (first | (with_reducible first | exact HK.out | apply KeepBut.set_ | apply keep_drewN | apply keep_drew | apply keep_alloc) | exact HK.out)) hf368))
                have hcn18 := fun (n_ : Nat) => Kd.C_string (P := Try.prog) (A := A17) (c := (cSz16_0 - (ji12).toNat)) Try.underlying37 Try.underlying5 Try.underlying9 (Kd.C_drewN (show Kd.C (Kd.int .u8) (wc.setCell ⟨g, 1, none⟩ (.int .i64 (wrap64 (t366 + (wrap64 (t365)))))) A17 ((s0_0.take ((wrap64 (t366 + (wrap64 (t365)))) : Int).toNat).drop ((ji12) : Int).toNat).length ((s0_0.take ((wrap64 (t366 + (wrap64 (t365)))) : Int).toNat).drop ((ji12) : Int).toNat) from (Kd.C_keep 0 HR368.out (by repeat (first | (with_reducible first | exact HK.out | apply KeepBut.set_ | apply keep_drewN | apply keep_drew | apply keep_alloc) | exact HK.out)) hf368)) n_)
                (try simp only [show ((s0_0.take ((wrap64 (t366 + (wrap64 (t365)))) : Int).toNat).drop ((ji12) : Int).toNat).length = ((wrap64 (t366 + (wrap64 (t365)))).toNat - (ji12).toNat) from (by rw [List.length_drop, List.length_take]; have h_ : ((wrap64 (t366 + (wrap64 (t365)))) : Int) ≤ (s0_0.length : Int) := of_decide_eq_true (by first | (with_reducible assumption) | assumption); omega)] at hcv18)
                (try simp only [show ((s0_0.take ((wrap64 (t366 + (wrap64 (t365)))) : Int).toNat).drop ((ji12) : Int).toNat).length = ((wrap64 (t366 + (wrap64 (t365)))).toNat - (ji12).toNat) from (by rw [List.length_drop, List.length_take]; have h_ : ((wrap64 (t366 + (wrap64 (t365)))) : Int) ≤ (s0_0.length : Int) := of_decide_eq_true (by first | (with_reducible assumption) | assumption); omega)] at hcn18)
                go_wp2
                repeat (go_quiet (fail); try go_wp2)
                go_ret
                exact ⟨by first | rfl | (simp [errW_none, errW_some] <;> rfl) | (simp only [← hji12]; first | rfl | (simp [errW_none, errW_some] <;> rfl)) | (simp [*, errW_none, errW_some] <;> rfl) | (simp [errW_none, errW_some]; generalize ByteArray.toList _ = l_; cases l_ <;> rfl), by repeat (first | (with_reducible first | exact HI0.out | apply IsS84.alloc | apply IsS84.drewN | apply IsS84.drew | apply IsS84.set_1 | apply IsS84.set_2) | exact HI0.out), by repeat (first | (with_reducible first | exact HB.out | apply below_alloc | apply pw_below_drewN | apply below_drew1 | refine below_set ?_ (IsS84.ge HI0.out)) | exact HB.out), by repeat (first | (with_reducible first | exact HK.out | apply KeepBut.set_ | apply keep_drewN | apply keep_drew | apply keep_alloc) | exact HK.out)⟩
              · rw [if_neg c15] at H
                exact absurd H (by simp)
            · rw [if_neg c14] at H
              exact absurd H (by simp)
          · rw [if_neg c13] at H
            exact absurd H (by simp)
        · rw [if_neg c11] at H
          have c11b0 : (t367 == 0) = false := beq_eq_false_iff_ne.mpr c11
          have c11b1 : (t367 != 0) = true := bne_iff_ne.mpr c11
          simp only [Option.some.injEq, Prod.mk.injEq] at H
          obtain ⟨rfl, rfl, rfl⟩ := H
          obtain ⟨ASz19_0, cSz19_0, HGz19, hgz19, HSz19_0⟩ := HI0.out
          have hcz19_0 := cellS84_0 HGz19
          have hcz19_1 := cellS84_1 HGz19
          have hcz19_2 := cellS84_2 HGz19
          have hfz19_1 := blk_frozen HGz19 1
          have hfz19_2 := blk_frozen HGz19 2
          clear HGz19 hgz19
          go_wp2
          repeat (go_quiet (fail); try go_wp2)
          go_ret
          exact ⟨by first | rfl | (simp [errW_none, errW_some] <;> rfl) | (simp [*, errW_none, errW_some] <;> rfl) | (simp [errW_none, errW_some]; generalize ByteArray.toList _ = l_; cases l_ <;> rfl), by repeat (first | (with_reducible first | exact HI0.out | apply IsS84.alloc | apply IsS84.drewN | apply IsS84.drew | apply IsS84.set_1 | apply IsS84.set_2) | exact HI0.out), by repeat (first | (with_reducible first | exact HB.out | apply below_alloc | apply pw_below_drewN | apply below_drew1 | refine below_set ?_ (IsS84.ge HI0.out)) | exact HB.out), by repeat (first | (with_reducible first | exact HK.out | apply KeepBut.set_ | apply keep_drewN | apply keep_drew | apply keep_alloc) | exact HK.out)⟩

end Go.Proofs.Ytphnolgneojdhaa.S

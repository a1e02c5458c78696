-- printed by a program of this session (a changed copy of the kit's printer)
import Derived.Test.YtphnolgneojdhaaSx0
import Derived.Test.YtphnolgneojdhaaSx18
namespace Go.Proofs.Ytphnolgneojdhaa.S
open Go.RowKit Go.Proofs.YtphnolgneojdhaaW.PrintWords Go.Proofs.YtphnolgneojdhaaW.PrintLast Go.Proofs.YtphnolgneojdhaaW.PrintMore
attribute [local go_sem] max2_int min2_int max_two min_two max_three min_three max_four min_four   -- for this text's walks alone
set_option linter.unusedVariables false
set_option linter.unusedSimpArgs false

/-! ### record_reader_sign: function 62 -/
def record_reader_sign.f (s0_0 : List Int) (s0_1 : Int) (s0_2 : Int) : Option (Bool × Int × Int) := if s0_2 = 0 then (if s0_1 = (s0_0.length : Int) then (some (false, s0_1, 4)) else (if 0 ≤ s0_1 then (if s0_1 < (s0_0.length : Int) then (if (rd s0_0 s0_1) > 1 then (if 0 ≤ (wrap64 ((wrap64 (s0_1 + 1)) - 1)) then (if (wrap64 ((wrap64 (s0_1 + 1)) - 1)) < (s0_0.length : Int) then (some (((rd s0_0 (wrap64 ((wrap64 (s0_1 + 1)) - 1))) == 1), wrap64 (s0_1 + 1), 2)) else (none)) else (none)) else (if 0 ≤ (wrap64 ((wrap64 (s0_1 + 1)) - 1)) then (if (wrap64 ((wrap64 (s0_1 + 1)) - 1)) < (s0_0.length : Int) then (some (((rd s0_0 (wrap64 ((wrap64 (s0_1 + 1)) - 1))) == 1), wrap64 (s0_1 + 1), s0_2)) else (none)) else (none))) else (none)) else (none))) else (some (false, s0_1, s0_2))
set_option maxHeartbeats 8000000 in
set_option maxRecDepth 100000 in
theorem record_reader_sign.calls (g : Nat) (s0_0 : List Int) (s0_1 : Int) (s0_2 : Int) (r1 : Bool) (r2 : Int) (r3 : Int) (w0 w : World) (hI : IsS84 w0 w g s0_0 s0_1 s0_2) (hB : Below w0.heap.size w0 w) (h : record_reader_sign.f s0_0 s0_1 s0_2 = some (r1, r2, r3)) :
    Calls Try.prog 62 #[.pointer (some ⟨g, 0, none⟩)] w fun e w' => e = .returned (.bool r1) ∧ IsS84 w0 w' g s0_0 r2 r3 ∧ Below w0.heap.size w0 w' ∧ KeepBut w w' g none := by
  have HI0 := Aside0.mk hI
  have HK := Aside0.mk (KeepBut.refl w g none)
  have HL := Aside0.mk hB.size
  clear hI
  have HW0 := Aside0.mk hB.size
  have HB := Aside0.mk hB
  have HBE := Aside0.mk hB
  clear hB
  have H : (if s0_2 = 0 then (if s0_1 = (s0_0.length : Int) then (some (false, s0_1, 4)) else (if 0 ≤ s0_1 then (if s0_1 < (s0_0.length : Int) then (if (rd s0_0 s0_1) > 1 then (if 0 ≤ (wrap64 ((wrap64 (s0_1 + 1)) - 1)) then (if (wrap64 ((wrap64 (s0_1 + 1)) - 1)) < (s0_0.length : Int) then (some (((rd s0_0 (wrap64 ((wrap64 (s0_1 + 1)) - 1))) == 1), wrap64 (s0_1 + 1), 2)) else (none)) else (none)) else (if 0 ≤ (wrap64 ((wrap64 (s0_1 + 1)) - 1)) then (if (wrap64 ((wrap64 (s0_1 + 1)) - 1)) < (s0_0.length : Int) then (some (((rd s0_0 (wrap64 ((wrap64 (s0_1 + 1)) - 1))) == 1), wrap64 (s0_1 + 1), s0_2)) else (none)) else (none))) else (none)) else (none))) else (some (false, s0_1, s0_2))) = some (r1, r2, r3) := h
  clear h
  by_cases c2 : s0_2 = 0
  · rw [if_pos c2] at H
    have c2b0 : (s0_2 == 0) = true := beq_iff_eq.mpr c2
    have c2b1 : (s0_2 != 0) = false := bne_eq_false_iff_eq.mpr c2
    clear c2
    by_cases c3 : s0_1 = (s0_0.length : Int)
    · rw [if_pos c3] at H
      have c3b0 : (s0_1 == (s0_0.length : Int)) = true := beq_iff_eq.mpr c3
      have c3b1 : (s0_1 != (s0_0.length : Int)) = false := bne_eq_false_iff_eq.mpr c3
      clear c3
      simp only [Option.some.injEq, Prod.mk.injEq] at H
      obtain ⟨rfl, rfl, rfl⟩ := H
      obtain ⟨ASz4_0, cSz4_0, HGz4, hgz4, HSz4_0⟩ := HI0.out
      have hcz4_0 := cellS84_0 HGz4
      have hcz4_1 := cellS84_1 HGz4
      have hcz4_2 := cellS84_2 HGz4
      have hfz4_1 := blk_frozen HGz4 1
      have hfz4_2 := blk_frozen HGz4 2
      clear HGz4 hgz4
      go_enter Try.func62, Try.ntmps62
      go_wp2
      repeat (go_quiet (fail); try go_wp2)
      go_ret
      exact ⟨by first | rfl | (simp [errW_none, errW_some] <;> rfl) | (simp [*, errW_none, errW_some] <;> rfl) | (simp [errW_none, errW_some]; generalize ByteArray.toList _ = l_; cases l_ <;> rfl), by repeat (first | (with_reducible first | exact HI0.out | apply IsS84.alloc | apply IsS84.drewN | apply IsS84.drew | apply IsS84.set_1 | apply IsS84.set_2) | exact HI0.out), by repeat (first | (with_reducible first | exact HB.out | apply below_alloc | apply pw_below_drewN | apply below_drew1 | refine below_set ?_ (IsS84.ge HI0.out)) | exact HB.out), by repeat (first | (with_reducible first | exact HK.out | apply KeepBut.set_ | apply keep_drewN | apply keep_drew | apply keep_alloc) | exact HK.out)⟩
    · rw [if_neg c3] at H
      have c3b0 : (s0_1 == (s0_0.length : Int)) = false := beq_eq_false_iff_ne.mpr c3
      have c3b1 : (s0_1 != (s0_0.length : Int)) = true := bne_iff_ne.mpr c3
      by_cases c5 : 0 ≤ s0_1
      · rw [if_pos c5] at H
        have c5b0 : decide (0 ≤ s0_1) = true := decide_eq_true c5
        clear c5
        by_cases c6 : s0_1 < (s0_0.length : Int)
        · rw [if_pos c6] at H
          have c6b0 : decide (s0_1 < (s0_0.length : Int)) = true := decide_eq_true c6
          clear c6
          by_cases c7 : (rd s0_0 s0_1) > 1
          · rw [if_pos c7] at H
            have c7b0 : decide (1 < (rd s0_0 s0_1)) = true := decide_eq_true c7
            clear c7
            obtain ⟨ji8, hji8⟩ : ∃ j_ : Int, (wrap64 ((wrap64 (s0_1 + 1)) - 1)) = j_ := ⟨_, rfl⟩
            replace H : (if 0 ≤ (ji8) then (if (ji8) < (s0_0.length : Int) then (some (((rd s0_0 (ji8)) == 1), wrap64 (s0_1 + 1), 2)) else (none)) else (none)) = some (r1, r2, r3) := by first | (rw [hji8] at H; exact H) | (simp only [hji8] at H ⊢; exact H)
            have hji8w : (IntKind.i64.wrap ((wrap64 (s0_1 + 1)) - 1)) = ji8 := (i64_w _).trans hji8
            by_cases c9 : 0 ≤ (ji8)
            · rw [if_pos c9] at H
              have c9b0 : decide (0 ≤ (ji8)) = true := decide_eq_true c9
              clear c9
              by_cases c10 : (ji8) < (s0_0.length : Int)
              · rw [if_pos c10] at H
                have c10b0 : decide ((ji8) < (s0_0.length : Int)) = true := decide_eq_true c10
                clear c10
                simp only [Option.some.injEq, Prod.mk.injEq] at H
                obtain ⟨rfl, rfl, rfl⟩ := H
                obtain ⟨ASz11_0, cSz11_0, HGz11, hgz11, HSz11_0⟩ := HI0.out
                have hcz11_0 := cellS84_0 HGz11
                have hcz11_1 := cellS84_1 HGz11
                have hcz11_2 := cellS84_2 HGz11
                have hfz11_1 := blk_frozen HGz11 1
                have hfz11_2 := blk_frozen HGz11 2
                clear HGz11 hgz11
                have p362 : 0 ≤ (s0_1 : Int) := of_decide_eq_true (by first | (with_reducible assumption) | assumption)
                have q362 : s0_1 < (s0_0.length : Int) := of_decide_eq_true (by first | (with_reducible assumption) | assumption)
                obtain ⟨ad362, e362, hx362_0⟩ := Kd.at_int HSz11_0.2 s0_1 p362 q362
                cases e362
                replace hx362_0 := pw_cell_below HB.out hx362_0
                replace p362 := eq_true p362
                replace q362 := eq_true q362
                have p363 : 0 ≤ ((ji8) : Int) := of_decide_eq_true (by first | (with_reducible assumption) | assumption)
                have q363 : (ji8) < (s0_0.length : Int) := of_decide_eq_true (by first | (with_reducible assumption) | assumption)
                obtain ⟨ad363, e363, hx363_0⟩ := Kd.at_int HSz11_0.2 (ji8) p363 q363
                obtain rfl : ad362 = ad363 := (by injection e363)
                have hn363_0 : ad362.block ≠ g := Nat.ne_of_lt (Nat.lt_of_lt_of_le (by have := World.block_lt_of_cell? _ _ hx363_0; first | rwa [add_block] at this | exact this) (IsS84.ge HI0.out))
                have hn363_1 : ad362.block ≠ g := Nat.ne_of_lt (Nat.lt_of_lt_of_le (by have := World.block_lt_of_cell? _ _ hx363_0; first | rwa [add_block] at this | exact this) (IsS84.ge HI0.out))
                replace hx363_0 := pw_cell_below HB.out hx363_0
                replace hx363_0 := (cell_far (p := ⟨g, 2, none⟩) (by first | (rw [add_block]; exact hn363_0) | (show (Addr.add _ _).block ≠ _; rw [add_block]; exact hn363_0) | exact hn363_0) (.int .i64 2)).trans hx363_0
                replace hx363_0 := (cell_far (p := ⟨g, 1, none⟩) (by first | (rw [add_block]; exact hn363_1) | (show (Addr.add _ _).block ≠ _; rw [add_block]; exact hn363_1) | exact hn363_1) (.int .i64 (wrap64 (s0_1 + 1)))).trans hx363_0
                (try have hy363_0 := fun (n_ : Nat) => (show ((((w.drewN n_).setCell ⟨g, 2, none⟩ (.int .i64 2)).setCell ⟨g, 1, none⟩ (.int .i64 (wrap64 (s0_1 + 1))))).cell? _ = some _ from hx363_0))
                clear hn363_0
                clear hn363_1
                replace p363 := eq_true p363
                replace q363 := eq_true q363
                go_enter Try.func62, Try.ntmps62
                go_wp2
                repeat (go_quiet (fail); try go_wp2)
                go_ret
                exact ⟨by first | rfl | (simp [errW_none, errW_some] <;> rfl) | (simp only [← hji8]; first | rfl | (simp [errW_none, errW_some] <;> rfl)) | (simp [*, errW_none, errW_some] <;> rfl) | (simp [errW_none, errW_some]; generalize ByteArray.toList _ = l_; cases l_ <;> rfl), by repeat (first | (with_reducible first | exact HI0.out | apply IsS84.alloc | apply IsS84.drewN | apply IsS84.drew | apply IsS84.set_1 | apply IsS84.set_2) | exact HI0.out), by repeat (first | (with_reducible first | exact HB.out | apply below_alloc | apply pw_below_drewN | apply below_drew1 | refine below_set ?_ (IsS84.ge HI0.out)) | exact HB.out), by repeat (first | (with_reducible first | exact HK.out | apply KeepBut.set_ | apply keep_drewN | apply keep_drew | apply keep_alloc) | exact HK.out)⟩
              · rw [if_neg c10] at H
                exact absurd H (by simp)
            · rw [if_neg c9] at H
              exact absurd H (by simp)
          · rw [if_neg c7] at H
            have c7b0 : decide (1 < (rd s0_0 s0_1)) = false := decide_eq_false c7
            clear c7
            obtain ⟨ji12, hji12⟩ : ∃ j_ : Int, (wrap64 ((wrap64 (s0_1 + 1)) - 1)) = j_ := ⟨_, rfl⟩
            replace H : (if 0 ≤ (ji12) then (if (ji12) < (s0_0.length : Int) then (some (((rd s0_0 (ji12)) == 1), wrap64 (s0_1 + 1), s0_2)) else (none)) else (none)) = some (r1, r2, r3) := by first | (rw [hji12] at H; exact H) | (simp only [hji12] at H ⊢; exact H)
            (try rw [hji12] at hji8)
            (try rw [hji12] at hji8w)
            have hji12w : (IntKind.i64.wrap ((wrap64 (s0_1 + 1)) - 1)) = ji12 := (i64_w _).trans hji12
            by_cases c13 : 0 ≤ (ji12)
            · rw [if_pos c13] at H
              have c13b0 : decide (0 ≤ (ji12)) = true := decide_eq_true c13
              clear c13
              by_cases c14 : (ji12) < (s0_0.length : Int)
              · rw [if_pos c14] at H
                have c14b0 : decide ((ji12) < (s0_0.length : Int)) = true := decide_eq_true c14
                clear c14
                simp only [Option.some.injEq, Prod.mk.injEq] at H
                obtain ⟨rfl, rfl, rfl⟩ := H
                obtain ⟨ASz15_0, cSz15_0, HGz15, hgz15, HSz15_0⟩ := HI0.out
                have hcz15_0 := cellS84_0 HGz15
                have hcz15_1 := cellS84_1 HGz15
                have hcz15_2 := cellS84_2 HGz15
                have hfz15_1 := blk_frozen HGz15 1
                have hfz15_2 := blk_frozen HGz15 2
                clear HGz15 hgz15
                have p362 : 0 ≤ (s0_1 : Int) := of_decide_eq_true (by first | (with_reducible assumption) | assumption)
                have q362 : s0_1 < (s0_0.length : Int) := of_decide_eq_true (by first | (with_reducible assumption) | assumption)
                obtain ⟨ad362, e362, hx362_0⟩ := Kd.at_int HSz15_0.2 s0_1 p362 q362
                cases e362
                replace hx362_0 := pw_cell_below HB.out hx362_0
                replace p362 := eq_true p362
                replace q362 := eq_true q362
                have p364 : 0 ≤ ((ji12) : Int) := of_decide_eq_true (by first | (with_reducible assumption) | assumption)
                have q364 : (ji12) < (s0_0.length : Int) := of_decide_eq_true (by first | (with_reducible assumption) | assumption)
                obtain ⟨ad364, e364, hx364_0⟩ := Kd.at_int HSz15_0.2 (ji12) p364 q364
                obtain rfl : ad362 = ad364 := (by injection e364)
                have hn364_0 : ad362.block ≠ g := Nat.ne_of_lt (Nat.lt_of_lt_of_le (by have := World.block_lt_of_cell? _ _ hx364_0; first | rwa [add_block] at this | exact this) (IsS84.ge HI0.out))
                replace hx364_0 := pw_cell_below HB.out hx364_0
                replace hx364_0 := (cell_far (p := ⟨g, 1, none⟩) (by first | (rw [add_block]; exact hn364_0) | (show (Addr.add _ _).block ≠ _; rw [add_block]; exact hn364_0) | exact hn364_0) (.int .i64 (wrap64 (s0_1 + 1)))).trans hx364_0
                (try have hy364_0 := fun (n_ : Nat) => (show (((w.drewN n_).setCell ⟨g, 1, none⟩ (.int .i64 (wrap64 (s0_1 + 1))))).cell? _ = some _ from hx364_0))
                clear hn364_0
                replace p364 := eq_true p364
                replace q364 := eq_true q364
                go_enter Try.func62, Try.ntmps62
                go_wp2
                repeat (go_quiet (fail); try go_wp2)
                go_ret
                exact ⟨by first | rfl | (simp [errW_none, errW_some] <;> rfl) | (simp only [← hji12]; first | rfl | (simp [errW_none, errW_some] <;> rfl)) | (simp [*, errW_none, errW_some] <;> rfl) | (simp [errW_none, errW_some]; generalize ByteArray.toList _ = l_; cases l_ <;> rfl), by repeat (first | (with_reducible first | exact HI0.out | apply IsS84.alloc | apply IsS84.drewN | apply IsS84.drew | apply IsS84.set_1 | apply IsS84.set_2) | exact HI0.out), by repeat (first | (with_reducible first | exact HB.out | apply below_alloc | apply pw_below_drewN | apply below_drew1 | refine below_set ?_ (IsS84.ge HI0.out)) | exact HB.out), by repeat (first | (with_reducible first | exact HK.out | apply KeepBut.set_ | apply keep_drewN | apply keep_drew | apply keep_alloc) | exact HK.out)⟩
              · rw [if_neg c14] at H
                exact absurd H (by simp)
            · rw [if_neg c13] at H
              exact absurd H (by simp)
        · rw [if_neg c6] at H
          exact absurd H (by simp)
      · rw [if_neg c5] at H
        exact absurd H (by simp)
  · rw [if_neg c2] at H
    have c2b0 : (s0_2 == 0) = false := beq_eq_false_iff_ne.mpr c2
    have c2b1 : (s0_2 != 0) = true := bne_iff_ne.mpr c2
    simp only [Option.some.injEq, Prod.mk.injEq] at H
    obtain ⟨rfl, rfl, rfl⟩ := H
    obtain ⟨ASz16_0, cSz16_0, HGz16, hgz16, HSz16_0⟩ := HI0.out
    have hcz16_0 := cellS84_0 HGz16
    have hcz16_1 := cellS84_1 HGz16
    have hcz16_2 := cellS84_2 HGz16
    have hfz16_1 := blk_frozen HGz16 1
    have hfz16_2 := blk_frozen HGz16 2
    clear HGz16 hgz16
    go_enter Try.func62, Try.ntmps62
    go_wp2
    repeat (go_quiet (fail); try go_wp2)
    go_ret
    exact ⟨by first | rfl | (simp [errW_none, errW_some] <;> rfl) | (simp [*, errW_none, errW_some] <;> rfl) | (simp [errW_none, errW_some]; generalize ByteArray.toList _ = l_; cases l_ <;> rfl), by repeat (first | (with_reducible first | exact HI0.out | apply IsS84.alloc | apply IsS84.drewN | apply IsS84.drew | apply IsS84.set_1 | apply IsS84.set_2) | exact HI0.out), by repeat (first | (with_reducible first | exact HB.out | apply below_alloc | apply pw_below_drewN | apply below_drew1 | refine below_set ?_ (IsS84.ge HI0.out)) | exact HB.out), by repeat (first | (with_reducible first | exact HK.out | apply KeepBut.set_ | apply keep_drewN | apply keep_drew | apply keep_alloc) | exact HK.out)⟩

end Go.Proofs.Ytphnolgneojdhaa.S

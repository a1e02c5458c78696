-- printed by a program of this session (a changed copy of the kit's printer)
import Derived.Test.YtphnolgneojdhaaSx0
import Derived.Test.YtphnolgneojdhaaSx16
namespace Go.Proofs.Ytphnolgneojdhaa.S
open Go.RowKit Go.Proofs.YtphnolgneojdhaaW.PrintWords Go.Proofs.YtphnolgneojdhaaW.PrintLast Go.Proofs.YtphnolgneojdhaaW.PrintMore
attribute [local go_sem] max2_int min2_int max_two min_two max_three min_three max_four min_four   -- for this text's walks alone
set_option linter.unusedVariables false
set_option linter.unusedSimpArgs false

/-- A state of type 84 at block g of W; what its slices lead to came in by w0. -/
def IsS84 (w0 W : World) (g : Nat) (f0 : List Int) (f1 : Int) (f2 : Int) : Prop := ∃ A0 c0, W.heap[g]? = some (.cells #[.slice A0 f0.length c0, .int .i64 f1, .int .i64 f2] 84 (0, 0)) ∧ w0.heap.size ≤ g ∧ (f0.length ≤ c0 ∧ Kd.C (Kd.int .u8) w0 A0 f0.length f0)
theorem IsS84.grown {w0 W : World} {g : Nat} {f0 : List Int} {f1 : Int} {f2 : Int} {W1 : World} {row : Option Nat} (h : IsS84 w0 W g f0 f1 f2) (hw : W.grownBy W1 row) (hne : some g ≠ row) : IsS84 w0 W1 g f0 f1 f2 := by
  obtain ⟨A0, c0, hb, hg, hr0⟩ := h
  exact ⟨A0, c0, blk_grown hb hw hne, hg, hr0⟩
theorem IsS84.own_neN {w0 W : World} {g : Nat} {f0 : List Int} {f1 : Int} {f2 : Int} {α : Type} {d : Kd α} {e : Nat} {base : Nat} {ok : Nat → Prop} {v : Value} {xs : List α} (h : IsS84 w0 W g f0 f1 f2) (ho : Kd.N d e W base ok v xs) (ht : e ≠ 84) : some g ≠ v.ownBlock := by
  obtain ⟨A0, c0, hb, hg, hr0⟩ := h
  exact Kd.N_ne ho hb ht
theorem IsS84.fresh {w0 W : World} {g : Nat} {f0 : List Int} {f1 : Int} {f2 : Int} (h : IsS84 w0 W g f0 f1 f2) : ∀ k, W.heap.size ≤ k → k ≠ g := by
  obtain ⟨A0, c0, hb, hg, hr0⟩ := h
  exact Kd.freshB hb
theorem IsS84.kept {w0 W : World} {g : Nat} {f0 : List Int} {f1 : Int} {f2 : Int} {W1 : World} {S : Nat → Prop} (h : IsS84 w0 W g f0 f1 f2) (hk : Kept W W1 S) (hne : ¬ S g) : IsS84 w0 W1 g f0 f1 f2 := by
  obtain ⟨A0, c0, hb, hg, hr0⟩ := h
  exact ⟨A0, c0, blk_kept hb hk hne, hg, hr0⟩
theorem IsS84.below {w0 W : World} {g : Nat} {f0 : List Int} {f1 : Int} {f2 : Int} {W1 : World} (h : IsS84 w0 W g f0 f1 f2) (hw : Below W.heap.size W W1) : IsS84 w0 W1 g f0 f1 f2 := h.grown (grown_of_below hw none) (by simp)
theorem IsS84.alloc {w0 W : World} {g : Nat} {f0 : List Int} {f1 : Int} {f2 : Int} (h : IsS84 w0 W g f0 f1 f2) (o : Obj) : IsS84 w0 (W.alloc o) g f0 f1 f2 := h.below (below_alloc (Below.refl _ _) o)
theorem IsS84.drewN {w0 W : World} {g : Nat} {f0 : List Int} {f1 : Int} {f2 : Int} (h : IsS84 w0 W g f0 f1 f2) (m : Nat) : IsS84 w0 (W.drewN m) g f0 f1 f2 := h
theorem IsS84.drew {w0 W : World} {g : Nat} {f0 : List Int} {f1 : Int} {f2 : Int} (h : IsS84 w0 W g f0 f1 f2) : IsS84 w0 W.drew g f0 f1 f2 := h
theorem IsS84.at_ {w0 W : World} {g : Nat} {f0 : List Int} {f1 : Int} {f2 : Int} {w' : World} {m : Nat} (hq : W.drewN m = w') (h : IsS84 w0 W g f0 f1 f2) : IsS84 w0 w' g f0 f1 f2 := by subst hq; exact IsS84.drewN h m
theorem IsS84.apart {w0 W : World} {g : Nat} {f0 : List Int} {f1 : Int} {f2 : Int} {α : Type} {d : Kd α} {e : Nat} {base : Nat} {ok : Nat → Prop} {v : Value} {xs : List α} (h : IsS84 w0 W g f0 f1 f2) (ho : d.R e W base ok v xs) (ht : ∀ q, q ∈ e :: d.E → q ≠ 84) : d.R e W base (fun k => ok k ∧ k ≠ g) v xs := by
  obtain ⟨A0, c0, hb, hg, hr0⟩ := h
  exact Kd.R_types ho hb ht
theorem IsS84.own_ne {w0 W : World} {g : Nat} {f0 : List Int} {f1 : Int} {f2 : Int} {α : Type} {d : Kd α} {e : Nat} {base : Nat} {ok : Nat → Prop} {v : Value} {xs : List α} (h : IsS84 w0 W g f0 f1 f2) (ho : d.R e W base ok v xs) (ht : e ≠ 84) : some g ≠ v.ownBlock := by
  obtain ⟨A0, c0, hb, hg, hr0⟩ := h
  exact Kd.R_ne ho hb ht
theorem IsS84.apartQ {w0 W : World} {g : Nat} {f0 : List Int} {f1 : Int} {f2 : Int} {α : Type} {d : Kd α} {e : Nat} {base : Nat} {ok : Nat → Prop} {v : Value} {xs : List α} (h : IsS84 w0 W g f0 f1 f2) (ho : d.Q e W base ok v xs) (ht : ∀ q, q ∈ e :: d.E → q ≠ 84) : d.Q e W base (fun k => ok k ∧ k ≠ g) v xs := by
  obtain ⟨A0, c0, hb, hg, hr0⟩ := h
  exact Kd.Q_types ho hb ht
theorem IsS84.own_neQ {w0 W : World} {g : Nat} {f0 : List Int} {f1 : Int} {f2 : Int} {α : Type} {d : Kd α} {e : Nat} {base : Nat} {ok : Nat → Prop} {v : Value} {xs : List α} (h : IsS84 w0 W g f0 f1 f2) (ho : d.Q e W base ok v xs) (ht : e ≠ 84) : some g ≠ v.ownBlock := by
  obtain ⟨A0, c0, hb, hg, hr0⟩ := h
  exact Kd.Q_ne ho hb ht
theorem IsS84.apartS {w0 W : World} {g : Nat} {f0 : List Int} {f1 : Int} {f2 : Int} {α : Type} {d : Kd α} {e : Nat} {base : Nat} {ok : Nat → Prop} {v : Value} {xs : List α} (h : IsS84 w0 W g f0 f1 f2) (ho : d.S e W base ok v xs) (ht : ∀ q, q ∈ e :: d.E → q ≠ 84) : d.S e W base (fun k => ok k ∧ k ≠ g) v xs := by
  obtain ⟨A0, c0, hb, hg, hr0⟩ := h
  exact Kd.S_types ho hb ht
theorem IsS84.own_neS {w0 W : World} {g : Nat} {f0 : List Int} {f1 : Int} {f2 : Int} {α : Type} {d : Kd α} {e : Nat} {base : Nat} {ok : Nat → Prop} {v : Value} {xs : List α} (h : IsS84 w0 W g f0 f1 f2) (ho : d.S e W base ok v xs) (ht : e ≠ 84) : some g ≠ v.ownBlock := by
  obtain ⟨A0, c0, hb, hg, hr0⟩ := h
  exact Kd.S_ne ho hb ht
theorem IsS84.lt {w0 W : World} {g : Nat} {f0 : List Int} {f1 : Int} {f2 : Int} (h : IsS84 w0 W g f0 f1 f2) : g < W.heap.size := by
  obtain ⟨A0, c0, hb, hg, hr0⟩ := h
  exact blk_lt hb
theorem IsS84.ge {w0 W : World} {g : Nat} {f0 : List Int} {f1 : Int} {f2 : Int} (h : IsS84 w0 W g f0 f1 f2) : w0.heap.size ≤ g := by
  obtain ⟨A0, c0, hb, hg, hr0⟩ := h
  exact hg
theorem IsS84.ne_blk {w0 W : World} {g : Nat} {f0 : List Int} {f1 : Int} {f2 : Int} {a : Nat} {cs : Array Value} {t : TypeId} {fr : Nat × Nat} (h : IsS84 w0 W g f0 f1 f2) (hb2 : W.heap[a]? = some (.cells cs t fr)) (ht : t ≠ 84) : g ≠ a := by
  obtain ⟨A0, c0, hb, hg, hr0⟩ := h
  rintro rfl
  rw [hb] at hb2
  injection hb2 with hb2
  injection hb2 with _ ht2
  exact ht ht2.symm
theorem IsS84.far {w0 W : World} {g : Nat} {f0 : List Int} {f1 : Int} {f2 : Int} {p : Addr} (h : IsS84 w0 W g f0 f1 f2) (hne : g ≠ p.block) (u : Value) : IsS84 w0 (W.setCell p u) g f0 f1 f2 := by
  obtain ⟨A0, c0, hb, hg, hr0⟩ := h
  exact ⟨A0, c0, blk_far hb hne u, hg, hr0⟩
theorem cellS84_0 {W : World} {g : Nat} {A0 : Option Addr} {c0 : Nat} {f0 : List Int} {f1 : Int} {f2 : Int} (h : W.heap[g]? = some (.cells #[.slice A0 f0.length c0, .int .i64 f1, .int .i64 f2] 84 (0, 0))) : W.cell? ⟨g, 0, none⟩ = some (.slice A0 f0.length c0) := (blk_cell h 0).trans rfl
theorem cellS84_1 {W : World} {g : Nat} {A0 : Option Addr} {c0 : Nat} {f0 : List Int} {f1 : Int} {f2 : Int} (h : W.heap[g]? = some (.cells #[.slice A0 f0.length c0, .int .i64 f1, .int .i64 f2] 84 (0, 0))) : W.cell? ⟨g, 1, none⟩ = some (.int .i64 f1) := (blk_cell h 1).trans rfl
theorem IsS84.cell_1 {w0 W : World} {g : Nat} {f0 : List Int} {f1 : Int} {f2 : Int} (h : IsS84 w0 W g f0 f1 f2) : W.cell? ⟨g, 1, none⟩ = some (.int .i64 f1) := by
  obtain ⟨A0, c0, hb, hg, hr0⟩ := h
  exact cellS84_1 hb
theorem IsS84.set_1 {w0 W : World} {g : Nat} {f0 : List Int} {f1 : Int} {f2 : Int} (h : IsS84 w0 W g f0 f1 f2) (x : Int) : IsS84 w0 (W.setCell ⟨g, 1, none⟩ (.int .i64 x)) g f0 x f2 := by
  obtain ⟨A0, c0, hb, hg, hr0⟩ := h
  exact ⟨A0, c0, by simpa using blk_set hb 1 (.int .i64 x), hg, hr0⟩
theorem cellS84_2 {W : World} {g : Nat} {A0 : Option Addr} {c0 : Nat} {f0 : List Int} {f1 : Int} {f2 : Int} (h : W.heap[g]? = some (.cells #[.slice A0 f0.length c0, .int .i64 f1, .int .i64 f2] 84 (0, 0))) : W.cell? ⟨g, 2, none⟩ = some (.int .i64 f2) := (blk_cell h 2).trans rfl
theorem IsS84.cell_2 {w0 W : World} {g : Nat} {f0 : List Int} {f1 : Int} {f2 : Int} (h : IsS84 w0 W g f0 f1 f2) : W.cell? ⟨g, 2, none⟩ = some (.int .i64 f2) := by
  obtain ⟨A0, c0, hb, hg, hr0⟩ := h
  exact cellS84_2 hb
theorem IsS84.set_2 {w0 W : World} {g : Nat} {f0 : List Int} {f1 : Int} {f2 : Int} (h : IsS84 w0 W g f0 f1 f2) (x : Int) : IsS84 w0 (W.setCell ⟨g, 2, none⟩ (.int .i64 x)) g f0 f1 x := by
  obtain ⟨A0, c0, hb, hg, hr0⟩ := h
  exact ⟨A0, c0, by simpa using blk_set hb 2 (.int .i64 x), hg, hr0⟩
theorem IsS84.new (w0 W : World) (A0 : Option Addr) (c0 : Nat) (f0 : List Int) (f1 : Int) (f2 : Int) (hB : Below w0.heap.size w0 W) (hr0 : f0.length ≤ c0 ∧ Kd.C (Kd.int .u8) w0 A0 f0.length f0) : IsS84 w0 (W.alloc (.cells #[.slice A0 f0.length c0, .int .i64 f1, .int .i64 f2] 84)) W.heap.size f0 f1 f2 := ⟨A0, c0, by simpa using heap_alloc_new W _, hB.size, hr0⟩

/-! ### record_reader_number: function 60 -/
def record_reader_number.f (k : Nat) (s0_0 : List Int) (s0_1 : Int) (s0_2 : Int) (a1 : Int) : Option (Int × Int × Int) := if s0_2 = 0 then (if 0 ≤ s0_1 then (if s0_1 ≤ (s0_0.length : Int) then ((varint_Get.f k (s0_0.drop (s0_1 : Int).toNat)).bind fun bt359 => (if bt359.2.2 = 0 then (if bt359.1 > a1 then (some (bt359.1, wrap64 (s0_1 + bt359.2.1), 2)) else (some (bt359.1, wrap64 (s0_1 + bt359.2.1), bt359.2.2))) else (some (bt359.1, wrap64 (s0_1 + bt359.2.1), bt359.2.2)))) else (none)) else (none)) else (some (0, s0_1, s0_2))
theorem record_reader_number.mono : ∀ a0 a1 a2 a3 k, LeO (record_reader_number.f k a0 a1 a2 a3) (record_reader_number.f (k + 1) a0 a1 a2 a3) := by
  intro a0 a1 a2 a3 k
  unfold record_reader_number.f
  repeat' first
      | (with_reducible exact varint_Get.mono _ _)
      | (with_reducible exact LeO.refl _)
      | (with_reducible exact LeO.none _)
      | (with_reducible refine LeO.ite ?_ ?_)
      | (with_reducible refine LeO.bind ?_ (fun _ => ?_))
      | exact varint_Get.mono _ _
      | exact LeO.none _
      | refine LeO.ite ?_ ?_
      | refine LeO.bind ?_ (fun _ => ?_)
set_option maxHeartbeats 8000000 in
set_option maxRecDepth 100000 in
theorem record_reader_number.calls (k : Nat) (g : Nat) (s0_0 : List Int) (s0_1 : Int) (s0_2 : Int) (a1 : Int) (r1 : Int) (r2 : Int) (r3 : Int) (w0 w : World) (hI : IsS84 w0 w g s0_0 s0_1 s0_2) (hB : Below w0.heap.size w0 w) (h : record_reader_number.f k s0_0 s0_1 s0_2 a1 = some (r1, r2, r3)) :
    Calls Try.prog 60 #[.pointer (some ⟨g, 0, none⟩), .int .u64 a1] w fun e w' => e = .returned (.int .u64 r1) ∧ IsS84 w0 w' g s0_0 r2 r3 ∧ Below w0.heap.size w0 w' ∧ KeepBut w w' g none := by
  have HI0 := Aside0.mk hI
  have HK := Aside0.mk (KeepBut.refl w g none)
  have HL := Aside0.mk hB.size
  clear hI
  have HW0 := Aside0.mk hB.size
  have HB := Aside0.mk hB
  have HBE := Aside0.mk hB
  clear hB
  have H : (if s0_2 = 0 then (if 0 ≤ s0_1 then (if s0_1 ≤ (s0_0.length : Int) then ((varint_Get.f k (s0_0.drop (s0_1 : Int).toNat)).bind fun bt359 => (if bt359.2.2 = 0 then (if bt359.1 > a1 then (some (bt359.1, wrap64 (s0_1 + bt359.2.1), 2)) else (some (bt359.1, wrap64 (s0_1 + bt359.2.1), bt359.2.2))) else (some (bt359.1, wrap64 (s0_1 + bt359.2.1), bt359.2.2)))) else (none)) else (none)) else (some (0, s0_1, s0_2))) = some (r1, r2, r3) := h
  clear h
  by_cases c3 : s0_2 = 0
  · rw [if_pos c3] at H
    have c3b0 : (s0_2 == 0) = true := beq_iff_eq.mpr c3
    have c3b1 : (s0_2 != 0) = false := bne_eq_false_iff_eq.mpr c3
    clear c3
    by_cases c4 : 0 ≤ s0_1
    · rw [if_pos c4] at H
      have c4b0 := eq_true c4
      have c4b1 : decide (0 ≤ s0_1) = true := decide_eq_true c4
      clear c4
      by_cases c5 : s0_1 ≤ (s0_0.length : Int)
      · rw [if_pos c5] at H
        have c5b0 := eq_true c5
        have c5b1 : decide (s0_1 ≤ (s0_0.length : Int)) = true := decide_eq_true c5
        clear c5
        replace H := Option.bind_eq_some_iff.mp H
        obtain ⟨⟨t359, t360, t361⟩, A60, H⟩ := H
        replace H : (if t361 = 0 then (if t359 > a1 then (some (t359, wrap64 (s0_1 + t360), 2)) else (some (t359, wrap64 (s0_1 + t360), t361))) else (some (t359, wrap64 (s0_1 + t360), t361))) = some (r1, r2, r3) := H
        have A6 := Aside0.mk A60
        clear A60
        by_cases c7 : t361 = 0
        · rw [if_pos c7] at H
          have c7b0 : (t361 == 0) = true := beq_iff_eq.mpr c7
          have c7b1 : (t361 != 0) = false := bne_eq_false_iff_eq.mpr c7
          clear c7
          by_cases c8 : t359 > a1
          · rw [if_pos c8] at H
            have c8b0 : decide (a1 < t359) = true := decide_eq_true c8
            clear c8
            simp only [Option.some.injEq, Prod.mk.injEq] at H
            obtain ⟨rfl, rfl, rfl⟩ := H
            obtain ⟨ASz9_0, cSz9_0, HGz9, hgz9, HSz9_0⟩ := HI0.out
            have hcz9_0 := cellS84_0 HGz9
            have hcz9_1 := cellS84_1 HGz9
            have hcz9_2 := cellS84_2 HGz9
            have hfz9_1 := blk_frozen HGz9 1
            have hfz9_2 := blk_frozen HGz9 2
            clear HGz9 hgz9
            obtain ⟨i010, hi010, _, hsz10, _⟩ := info_parts info5
            obtain ⟨A10, hcut10, hA10, hC10⟩ := print_drop_of (P := Try.prog) (Value.int .u8) 0 37 5 .i64 Try.underlying37 hi010 hsz10 ASz9_0 cSz9_0 s0_0 s0_1 (of_decide_eq_true (by first | (with_reducible assumption) | assumption)) (of_decide_eq_true (by first | (with_reducible assumption) | assumption)) HSz9_0.1
            have HR358 := Aside0.mk (Kd.C_of_reads (h1 := fun _ => rfl) (hA10 _ (Kd.reads_of_C (Kd.C_below HSz9_0.2 HBE.out))))
            have HC358 := Aside0.mk hC10
            have hf358 : ∀ ad : Addr, A10 = some ad → 0 < (s0_0.drop (s0_1 : Int).toNat).length → ad.block ≠ g := Kd.far_C 0 (Kd.C_of_reads (h1 := fun _ => rfl) (hA10 _ (Kd.reads_of_C HSz9_0.2))) (IsS84.ge HI0.out)
            clear hA10 hC10 hi010 hsz10
            go_enter Try.func60, Try.ntmps60
            go_wp2_with (first | (go_at_call 56; refine calls_of_args (args' := #[.slice A10 (s0_0.drop (s0_1 : Int).toNat).length (cSz9_0 - s0_1.toNat)]) (by first | (rw [show (s0_0.drop (s0_1 : Int).toNat).length = (s0_0.length - s0_1.toNat) from List.length_drop] <;> rfl) | rfl) ?_; (with_reducible refine (varint_Get.calls k _ _ (s0_0.drop (s0_1 : Int).toNat) t359 t360 t361 _ ?side1 ?side2 A6.out).mono ?_); (case side1 => exact Kd.C_keep 0 HR358.out (by repeat (first | (with_reducible first | exact HK.out | apply KeepBut.set_ | apply keep_drewN | apply keep_drew | apply keep_alloc) | exact HK.out)) hf358); (case side2 => exact HC358.out); rintro e w' ⟨rfl, ⟨nd, rfl⟩⟩; (try first | exact ⟨rfl, _, World.drewN_drewN _ _ _⟩ | exact ⟨rfl, _, Eq.trans (World.drewN_drewN _ _ _) (congrArg (World.drewN _) (Nat.add_assoc _ _ _))⟩)))
            repeat (go_quiet (first | (go_at_call 56; refine calls_of_args (args' := #[.slice A10 (s0_0.drop (s0_1 : Int).toNat).length (cSz9_0 - s0_1.toNat)]) (by first | (rw [show (s0_0.drop (s0_1 : Int).toNat).length = (s0_0.length - s0_1.toNat) from List.length_drop] <;> rfl) | rfl) ?_; (with_reducible refine (varint_Get.calls k _ _ (s0_0.drop (s0_1 : Int).toNat) t359 t360 t361 _ ?side1 ?side2 A6.out).mono ?_); (case side1 => exact Kd.C_keep 0 HR358.out (by repeat (first | (with_reducible first | exact HK.out | apply KeepBut.set_ | apply keep_drewN | apply keep_drew | apply keep_alloc) | exact HK.out)) hf358); (case side2 => exact HC358.out); rintro e w' ⟨rfl, ⟨nd, rfl⟩⟩; (try first | exact ⟨rfl, _, World.drewN_drewN _ _ _⟩ | exact ⟨rfl, _, Eq.trans (World.drewN_drewN _ _ _) (congrArg (World.drewN _) (Nat.add_assoc _ _ _))⟩))); try go_wp2_with (first | (go_at_call 56; refine calls_of_args (args' := #[.slice A10 (s0_0.drop (s0_1 : Int).toNat).length (cSz9_0 - s0_1.toNat)]) (by first | (rw [show (s0_0.drop (s0_1 : Int).toNat).length = (s0_0.length - s0_1.toNat) from List.length_drop] <;> rfl) | rfl) ?_; (with_reducible refine (varint_Get.calls k _ _ (s0_0.drop (s0_1 : Int).toNat) t359 t360 t361 _ ?side1 ?side2 A6.out).mono ?_); (case side1 => exact Kd.C_keep 0 HR358.out (by repeat (first | (with_reducible first | exact HK.out | apply KeepBut.set_ | apply keep_drewN | apply keep_drew | apply keep_alloc) | exact HK.out)) hf358); (case side2 => exact HC358.out); rintro e w' ⟨rfl, ⟨nd, rfl⟩⟩; (try first | exact ⟨rfl, _, World.drewN_drewN _ _ _⟩ | exact ⟨rfl, _, Eq.trans (World.drewN_drewN _ _ _) (congrArg (World.drewN _) (Nat.add_assoc _ _ _))⟩))))
            go_ret
            exact ⟨by first | rfl | (simp [errW_none, errW_some] <;> rfl) | (simp [*, errW_none, errW_some] <;> rfl) | (simp [errW_none, errW_some]; generalize ByteArray.toList _ = l_; cases l_ <;> rfl), by repeat (first | (with_reducible first | exact HI0.out | apply IsS84.alloc | apply IsS84.drewN | apply IsS84.drew | apply IsS84.set_1 | apply IsS84.set_2) | exact HI0.out), by repeat (first | (with_reducible first | exact HB.out | apply below_alloc | apply pw_below_drewN | apply below_drew1 | refine below_set ?_ (IsS84.ge HI0.out)) | exact HB.out), by repeat (first | (with_reducible first | exact HK.out | apply KeepBut.set_ | apply keep_drewN | apply keep_drew | apply keep_alloc) | exact HK.out)⟩
          · rw [if_neg c8] at H
            have c8b0 : decide (a1 < t359) = false := decide_eq_false c8
            clear c8
            simp only [Option.some.injEq, Prod.mk.injEq] at H
            obtain ⟨rfl, rfl, rfl⟩ := H
            obtain ⟨ASz11_0, cSz11_0, HGz11, hgz11, HSz11_0⟩ := HI0.out
            have hcz11_0 := cellS84_0 HGz11
            have hcz11_1 := cellS84_1 HGz11
            have hcz11_2 := cellS84_2 HGz11
            have hfz11_1 := blk_frozen HGz11 1
            have hfz11_2 := blk_frozen HGz11 2
            clear HGz11 hgz11
            obtain ⟨i012, hi012, _, hsz12, _⟩ := info_parts info5
            obtain ⟨A12, hcut12, hA12, hC12⟩ := print_drop_of (P := Try.prog) (Value.int .u8) 0 37 5 .i64 Try.underlying37 hi012 hsz12 ASz11_0 cSz11_0 s0_0 s0_1 (of_decide_eq_true (by first | (with_reducible assumption) | assumption)) (of_decide_eq_true (by first | (with_reducible assumption) | assumption)) HSz11_0.1
            have HR358 := Aside0.mk (Kd.C_of_reads (h1 := fun _ => rfl) (hA12 _ (Kd.reads_of_C (Kd.C_below HSz11_0.2 HBE.out))))
            have HC358 := Aside0.mk hC12
            have hf358 : ∀ ad : Addr, A12 = some ad → 0 < (s0_0.drop (s0_1 : Int).toNat).length → ad.block ≠ g := Kd.far_C 0 (Kd.C_of_reads (h1 := fun _ => rfl) (hA12 _ (Kd.reads_of_C HSz11_0.2))) (IsS84.ge HI0.out)
            clear hA12 hC12 hi012 hsz12
            go_enter Try.func60, Try.ntmps60
            go_wp2_with (first | (go_at_call 56; refine calls_of_args (args' := #[.slice A12 (s0_0.drop (s0_1 : Int).toNat).length (cSz11_0 - s0_1.toNat)]) (by first | (rw [show (s0_0.drop (s0_1 : Int).toNat).length = (s0_0.length - s0_1.toNat) from List.length_drop] <;> rfl) | rfl) ?_; (with_reducible refine (varint_Get.calls k _ _ (s0_0.drop (s0_1 : Int).toNat) t359 t360 t361 _ ?side1 ?side2 A6.out).mono ?_); (case side1 => exact Kd.C_keep 0 HR358.out (by repeat (first | (with_reducible first | exact HK.out | apply KeepBut.set_ | apply keep_drewN | apply keep_drew | apply keep_alloc) | exact HK.out)) hf358); (case side2 => exact HC358.out); rintro e w' ⟨rfl, ⟨nd, rfl⟩⟩; (try first | exact ⟨rfl, _, World.drewN_drewN _ _ _⟩ | exact ⟨rfl, _, Eq.trans (World.drewN_drewN _ _ _) (congrArg (World.drewN _) (Nat.add_assoc _ _ _))⟩)))
            repeat (go_quiet (first | (go_at_call 56; refine calls_of_args (args' := #[.slice A12 (s0_0.drop (s0_1 : Int).toNat).length (cSz11_0 - s0_1.toNat)]) (by first | (rw [show (s0_0.drop (s0_1 : Int).toNat).length = (s0_0.length - s0_1.toNat) from List.length_drop] <;> rfl) | rfl) ?_; (with_reducible refine (varint_Get.calls k _ _ (s0_0.drop (s0_1 : Int).toNat) t359 t360 t361 _ ?side1 ?side2 A6.out).mono ?_); (case side1 => exact Kd.C_keep 0 HR358.out (by repeat (first | (with_reducible first | exact HK.out | apply KeepBut.set_ | apply keep_drewN | apply keep_drew | apply keep_alloc) | exact HK.out)) hf358); (case side2 => exact HC358.out); rintro e w' ⟨rfl, ⟨nd, rfl⟩⟩; (try first | exact ⟨rfl, _, World.drewN_drewN _ _ _⟩ | exact ⟨rfl, _, Eq.trans (World.drewN_drewN _ _ _) (congrArg (World.drewN _) (Nat.add_assoc _ _ _))⟩))); try go_wp2_with (first | (go_at_call 56; refine calls_of_args (args' := #[.slice A12 (s0_0.drop (s0_1 : Int).toNat).length (cSz11_0 - s0_1.toNat)]) (by first | (rw [show (s0_0.drop (s0_1 : Int).toNat).length = (s0_0.length - s0_1.toNat) from List.length_drop] <;> rfl) | rfl) ?_; (with_reducible refine (varint_Get.calls k _ _ (s0_0.drop (s0_1 : Int).toNat) t359 t360 t361 _ ?side1 ?side2 A6.out).mono ?_); (case side1 => exact Kd.C_keep 0 HR358.out (by repeat (first | (with_reducible first | exact HK.out | apply KeepBut.set_ | apply keep_drewN | apply keep_drew | apply keep_alloc) | exact HK.out)) hf358); (case side2 => exact HC358.out); rintro e w' ⟨rfl, ⟨nd, rfl⟩⟩; (try first | exact ⟨rfl, _, World.drewN_drewN _ _ _⟩ | exact ⟨rfl, _, Eq.trans (World.drewN_drewN _ _ _) (congrArg (World.drewN _) (Nat.add_assoc _ _ _))⟩))))
            go_ret
            exact ⟨by first | rfl | (simp [errW_none, errW_some] <;> rfl) | (simp [*, errW_none, errW_some] <;> rfl) | (simp [errW_none, errW_some]; generalize ByteArray.toList _ = l_; cases l_ <;> rfl), by repeat (first | (with_reducible first | exact HI0.out | apply IsS84.alloc | apply IsS84.drewN | apply IsS84.drew | apply IsS84.set_1 | apply IsS84.set_2) | exact HI0.out), by repeat (first | (with_reducible first | exact HB.out | apply below_alloc | apply pw_below_drewN | apply below_drew1 | refine below_set ?_ (IsS84.ge HI0.out)) | exact HB.out), by repeat (first | (with_reducible first | exact HK.out | apply KeepBut.set_ | apply keep_drewN | apply keep_drew | apply keep_alloc) | exact HK.out)⟩
        · rw [if_neg c7] at H
          have c7b0 : (t361 == 0) = false := beq_eq_false_iff_ne.mpr c7
          have c7b1 : (t361 != 0) = true := bne_iff_ne.mpr c7
          simp only [Option.some.injEq, Prod.mk.injEq] at H
          obtain ⟨rfl, rfl, rfl⟩ := H
          obtain ⟨ASz13_0, cSz13_0, HGz13, hgz13, HSz13_0⟩ := HI0.out
          have hcz13_0 := cellS84_0 HGz13
          have hcz13_1 := cellS84_1 HGz13
          have hcz13_2 := cellS84_2 HGz13
          have hfz13_1 := blk_frozen HGz13 1
          have hfz13_2 := blk_frozen HGz13 2
          clear HGz13 hgz13
          obtain ⟨i014, hi014, _, hsz14, _⟩ := info_parts info5
          obtain ⟨A14, hcut14, hA14, hC14⟩ := print_drop_of (P := Try.prog) (Value.int .u8) 0 37 5 .i64 Try.underlying37 hi014 hsz14 ASz13_0 cSz13_0 s0_0 s0_1 (of_decide_eq_true (by first | (with_reducible assumption) | assumption)) (of_decide_eq_true (by first | (with_reducible assumption) | assumption)) HSz13_0.1
          have HR358 := Aside0.mk (Kd.C_of_reads (h1 := fun _ => rfl) (hA14 _ (Kd.reads_of_C (Kd.C_below HSz13_0.2 HBE.out))))
          have HC358 := Aside0.mk hC14
          have hf358 : ∀ ad : Addr, A14 = some ad → 0 < (s0_0.drop (s0_1 : Int).toNat).length → ad.block ≠ g := Kd.far_C 0 (Kd.C_of_reads (h1 := fun _ => rfl) (hA14 _ (Kd.reads_of_C HSz13_0.2))) (IsS84.ge HI0.out)
          clear hA14 hC14 hi014 hsz14
          go_enter Try.func60, Try.ntmps60
          go_wp2_with (first | (go_at_call 56; refine calls_of_args (args' := #[.slice A14 (s0_0.drop (s0_1 : Int).toNat).length (cSz13_0 - s0_1.toNat)]) (by first | (rw [show (s0_0.drop (s0_1 : Int).toNat).length = (s0_0.length - s0_1.toNat) from List.length_drop] <;> rfl) | rfl) ?_; (with_reducible refine (varint_Get.calls k _ _ (s0_0.drop (s0_1 : Int).toNat) t359 t360 t361 _ ?side1 ?side2 A6.out).mono ?_); (case side1 => exact Kd.C_keep 0 HR358.out (by repeat (first | (with_reducible first | exact HK.out | apply KeepBut.set_ | apply keep_drewN | apply keep_drew | apply keep_alloc) | exact HK.out)) hf358); (case side2 => exact HC358.out); rintro e w' ⟨rfl, ⟨nd, rfl⟩⟩; (try first | exact ⟨rfl, _, World.drewN_drewN _ _ _⟩ | exact ⟨rfl, _, Eq.trans (World.drewN_drewN _ _ _) (congrArg (World.drewN _) (Nat.add_assoc _ _ _))⟩)))
          repeat (go_quiet (first | (go_at_call 56; refine calls_of_args (args' := #[.slice A14 (s0_0.drop (s0_1 : Int).toNat).length (cSz13_0 - s0_1.toNat)]) (by first | (rw [show (s0_0.drop (s0_1 : Int).toNat).length = (s0_0.length - s0_1.toNat) from List.length_drop] <;> rfl) | rfl) ?_; (with_reducible refine (varint_Get.calls k _ _ (s0_0.drop (s0_1 : Int).toNat) t359 t360 t361 _ ?side1 ?side2 A6.out).mono ?_); (case side1 => exact Kd.C_keep 0 HR358.out (by repeat (first | (with_reducible first | exact HK.out | apply KeepBut.set_ | apply keep_drewN | apply keep_drew | apply keep_alloc) | exact HK.out)) hf358); (case side2 => exact HC358.out); rintro e w' ⟨rfl, ⟨nd, rfl⟩⟩; (try first | exact ⟨rfl, _, World.drewN_drewN _ _ _⟩ | exact ⟨rfl, _, Eq.trans (World.drewN_drewN _ _ _) (congrArg (World.drewN _) (Nat.add_assoc _ _ _))⟩))); try go_wp2_with (first | (go_at_call 56; refine calls_of_args (args' := #[.slice A14 (s0_0.drop (s0_1 : Int).toNat).length (cSz13_0 - s0_1.toNat)]) (by first | (rw [show (s0_0.drop (s0_1 : Int).toNat).length = (s0_0.length - s0_1.toNat) from List.length_drop] <;> rfl) | rfl) ?_; (with_reducible refine (varint_Get.calls k _ _ (s0_0.drop (s0_1 : Int).toNat) t359 t360 t361 _ ?side1 ?side2 A6.out).mono ?_); (case side1 => exact Kd.C_keep 0 HR358.out (by repeat (first | (with_reducible first | exact HK.out | apply KeepBut.set_ | apply keep_drewN | apply keep_drew | apply keep_alloc) | exact HK.out)) hf358); (case side2 => exact HC358.out); rintro e w' ⟨rfl, ⟨nd, rfl⟩⟩; (try first | exact ⟨rfl, _, World.drewN_drewN _ _ _⟩ | exact ⟨rfl, _, Eq.trans (World.drewN_drewN _ _ _) (congrArg (World.drewN _) (Nat.add_assoc _ _ _))⟩))))
          go_ret
          exact ⟨by first | rfl | (simp [errW_none, errW_some] <;> rfl) | (simp [*, errW_none, errW_some] <;> rfl) | (simp [errW_none, errW_some]; generalize ByteArray.toList _ = l_; cases l_ <;> rfl), by repeat (first | (with_reducible first | exact HI0.out | apply IsS84.alloc | apply IsS84.drewN | apply IsS84.drew | apply IsS84.set_1 | apply IsS84.set_2) | exact HI0.out), by repeat (first | (with_reducible first | exact HB.out | apply below_alloc | apply pw_below_drewN | apply below_drew1 | refine below_set ?_ (IsS84.ge HI0.out)) | exact HB.out), by repeat (first | (with_reducible first | exact HK.out | apply KeepBut.set_ | apply keep_drewN | apply keep_drew | apply keep_alloc) | exact HK.out)⟩
      · rw [if_neg c5] at H
        exact absurd H (by simp)
    · rw [if_neg c4] at H
      exact absurd H (by simp)
  · rw [if_neg c3] at H
    have c3b0 : (s0_2 == 0) = false := beq_eq_false_iff_ne.mpr c3
    have c3b1 : (s0_2 != 0) = true := bne_iff_ne.mpr c3
    simp only [Option.some.injEq, Prod.mk.injEq] at H
    obtain ⟨rfl, rfl, rfl⟩ := H
    obtain ⟨ASz15_0, cSz15_0, HGz15, hgz15, HSz15_0⟩ := HI0.out
    have hcz15_0 := cellS84_0 HGz15
    have hcz15_1 := cellS84_1 HGz15
    have hcz15_2 := cellS84_2 HGz15
    have hfz15_1 := blk_frozen HGz15 1
    have hfz15_2 := blk_frozen HGz15 2
    clear HGz15 hgz15
    go_enter Try.func60, Try.ntmps60
    go_wp2
    repeat (go_quiet (fail); try go_wp2)
    go_ret
    exact ⟨by first | rfl | (simp [errW_none, errW_some] <;> rfl) | (simp [*, errW_none, errW_some] <;> rfl) | (simp [errW_none, errW_some]; generalize ByteArray.toList _ = l_; cases l_ <;> rfl), by repeat (first | (with_reducible first | exact HI0.out | apply IsS84.alloc | apply IsS84.drewN | apply IsS84.drew | apply IsS84.set_1 | apply IsS84.set_2) | exact HI0.out), by repeat (first | (with_reducible first | exact HB.out | apply below_alloc | apply pw_below_drewN | apply below_drew1 | refine below_set ?_ (IsS84.ge HI0.out)) | exact HB.out), by repeat (first | (with_reducible first | exact HK.out | apply KeepBut.set_ | apply keep_drewN | apply keep_drew | apply keep_alloc) | exact HK.out)⟩

/-! ### varint_Unfold: function 61 -/
def varint_Unfold.f (a0 : Int) : Option (Int) := if (Go.bits .and .u64 a0 1) = 1 then (some (Go.bits .xor .i64 (-1) (wrap64 (a0 / 2)))) else (some (wrap64 (a0 / 2)))
set_option maxHeartbeats 8000000 in
set_option maxRecDepth 100000 in
theorem varint_Unfold.calls (a0 : Int) (r : Int) (w : World) (h : varint_Unfold.f a0 = some r) :
    Calls Try.prog 61 #[.int .u64 a0] w fun e w' => e = .returned (.int .i64 r) ∧ Drawn0 w w' := by
  have H : (if (Go.bits .and .u64 a0 1) = 1 then (some (Go.bits .xor .i64 (-1) (wrap64 (a0 / 2)))) else (some (wrap64 (a0 / 2)))) = some r := h
  clear h
  by_cases c2 : (Go.bits .and .u64 a0 1) = 1
  · rw [if_pos c2] at H
    have c2b0 : ((Go.bits .and .u64 a0 1) == 1) = true := beq_iff_eq.mpr c2
    have c2b1 : ((Go.bits .and .u64 a0 1) != 1) = false := bne_eq_false_iff_eq.mpr c2
    clear c2
    obtain rfl := Option.some.inj H
    go_enter Try.func61, Try.ntmps61
    go_wp2
    go_ret
    exact ⟨by first | rfl | (simp; done) | (simp [*]; done), by repeat (first | exact Drawn0.refl _ | apply Drawn0.step)⟩
  · rw [if_neg c2] at H
    have c2b0 : ((Go.bits .and .u64 a0 1) == 1) = false := beq_eq_false_iff_ne.mpr c2
    have c2b1 : ((Go.bits .and .u64 a0 1) != 1) = true := bne_iff_ne.mpr c2
    obtain rfl := Option.some.inj H
    go_enter Try.func61, Try.ntmps61
    go_wp2
    go_ret
    exact ⟨by first | rfl | (simp; done) | (simp [*]; done), by repeat (first | exact Drawn0.refl _ | apply Drawn0.step)⟩

end Go.Proofs.Ytphnolgneojdhaa.S

-- printed by a program of this session (a changed copy of the kit's printer; squeeze.py)
import Derived.Test.YtphnolgneojdhaaVx0
import Derived.Test.YtphnolgneojdhaaVx8
namespace Go.Proofs.Ytphnolgneojdhaa.V
open Go.RowKit Go.Proofs.YtphnolgneojdhaaW.PrintWords Go.Proofs.YtphnolgneojdhaaW.PrintLast Go.Proofs.YtphnolgneojdhaaW.PrintMore
attribute [local go_sem] max2_int min2_int max_two min_two max_three min_three max_four min_four   -- for this text's walks alone
set_option linter.unusedVariables false
set_option linter.unusedSimpArgs false

/-- A state of type 84 at block g of W; what its slices lead to came in by w0. -/
def IsS84 (w0 W : World) (g : Nat) (f0 : List Int) (f1 : Int) (f2 : Int) : Prop := ∃ A0 c0, W.heap[g]? = some (.cells #[.slice A0 f0.length c0, .int .i64 f1, .int .i64 f2] 84 (0, 0)) ∧ w0.heap.size ≤ g ∧ (f0.length ≤ c0 ∧ Kd.C (Kd.int .u8) w0 A0 f0.length f0)
theorem IsS84.grown {w0 W : World} {g : Nat} {f0 : List Int} {f1 : Int} {f2 : Int} {W1 : World} {row : Option Nat} (h : IsS84 w0 W g f0 f1 f2) (hw : W.grownBy W1 row) (hne : some g ≠ row) : IsS84 w0 W1 g f0 f1 f2 := by
  obtain ⟨A0, c0, hb, hg, hr0⟩ := h
  exact ⟨A0, c0, blk_grown hb hw hne, hg, hr0⟩
theorem IsS84.own_neN {w0 W : World} {g : Nat} {f0 : List Int} {f1 : Int} {f2 : Int} {α : Type} {d : Kd α} {e : Nat} {base : Nat} {ok : Nat → Prop} {v : Value} {xs : List α} (h : IsS84 w0 W g f0 f1 f2) (ho : Kd.N d e W base ok v xs) (ht : e ≠ 84) : some g ≠ v.ownBlock := by
  obtain ⟨A0, c0, hb, hg, hr0⟩ := h
  exact Kd.N_ne ho hb ht
theorem IsS84.fresh {w0 W : World} {g : Nat} {f0 : List Int} {f1 : Int} {f2 : Int} (h : IsS84 w0 W g f0 f1 f2) : ∀ k, W.heap.size ≤ k → k ≠ g := by
  obtain ⟨A0, c0, hb, hg, hr0⟩ := h
  exact Kd.freshB hb
theorem IsS84.kept {w0 W : World} {g : Nat} {f0 : List Int} {f1 : Int} {f2 : Int} {W1 : World} {S : Nat → Prop} (h : IsS84 w0 W g f0 f1 f2) (hk : Kept W W1 S) (hne : ¬ S g) : IsS84 w0 W1 g f0 f1 f2 := by
  obtain ⟨A0, c0, hb, hg, hr0⟩ := h
  exact ⟨A0, c0, blk_kept hb hk hne, hg, hr0⟩
theorem IsS84.below {w0 W : World} {g : Nat} {f0 : List Int} {f1 : Int} {f2 : Int} {W1 : World} (h : IsS84 w0 W g f0 f1 f2) (hw : Below W.heap.size W W1) : IsS84 w0 W1 g f0 f1 f2 := h.grown (grown_of_below hw none) (by simp)
theorem IsS84.alloc {w0 W : World} {g : Nat} {f0 : List Int} {f1 : Int} {f2 : Int} (h : IsS84 w0 W g f0 f1 f2) (o : Obj) : IsS84 w0 (W.alloc o) g f0 f1 f2 := h.below (vA (Below.refl _ _) o)
theorem IsS84.drewN {w0 W : World} {g : Nat} {f0 : List Int} {f1 : Int} {f2 : Int} (h : IsS84 w0 W g f0 f1 f2) (m : Nat) : IsS84 w0 (W.drewN m) g f0 f1 f2 := h
theorem IsS84.drew {w0 W : World} {g : Nat} {f0 : List Int} {f1 : Int} {f2 : Int} (h : IsS84 w0 W g f0 f1 f2) : IsS84 w0 W.drew g f0 f1 f2 := h
theorem IsS84.at_ {w0 W : World} {g : Nat} {f0 : List Int} {f1 : Int} {f2 : Int} {w' : World} {m : Nat} (hq : W.drewN m = w') (h : IsS84 w0 W g f0 f1 f2) : IsS84 w0 w' g f0 f1 f2 := by subst hq; exact IsS84.drewN h m
theorem IsS84.apart {w0 W : World} {g : Nat} {f0 : List Int} {f1 : Int} {f2 : Int} {α : Type} {d : Kd α} {e : Nat} {base : Nat} {ok : Nat → Prop} {v : Value} {xs : List α} (h : IsS84 w0 W g f0 f1 f2) (ho : d.R e W base ok v xs) (ht : ∀ q, q ∈ e :: d.E → q ≠ 84) : d.R e W base (fun k => ok k ∧ k ≠ g) v xs := by
  obtain ⟨A0, c0, hb, hg, hr0⟩ := h
  exact Kd.R_types ho hb ht
theorem IsS84.own_ne {w0 W : World} {g : Nat} {f0 : List Int} {f1 : Int} {f2 : Int} {α : Type} {d : Kd α} {e : Nat} {base : Nat} {ok : Nat → Prop} {v : Value} {xs : List α} (h : IsS84 w0 W g f0 f1 f2) (ho : d.R e W base ok v xs) (ht : e ≠ 84) : some g ≠ v.ownBlock := by
  obtain ⟨A0, c0, hb, hg, hr0⟩ := h
  exact Kd.R_ne ho hb ht
theorem IsS84.apartQ {w0 W : World} {g : Nat} {f0 : List Int} {f1 : Int} {f2 : Int} {α : Type} {d : Kd α} {e : Nat} {base : Nat} {ok : Nat → Prop} {v : Value} {xs : List α} (h : IsS84 w0 W g f0 f1 f2) (ho : d.Q e W base ok v xs) (ht : ∀ q, q ∈ e :: d.E → q ≠ 84) : d.Q e W base (fun k => ok k ∧ k ≠ g) v xs := by
  obtain ⟨A0, c0, hb, hg, hr0⟩ := h
  exact Kd.Q_types ho hb ht
theorem IsS84.own_neQ {w0 W : World} {g : Nat} {f0 : List Int} {f1 : Int} {f2 : Int} {α : Type} {d : Kd α} {e : Nat} {base : Nat} {ok : Nat → Prop} {v : Value} {xs : List α} (h : IsS84 w0 W g f0 f1 f2) (ho : d.Q e W base ok v xs) (ht : e ≠ 84) : some g ≠ v.ownBlock := by
  obtain ⟨A0, c0, hb, hg, hr0⟩ := h
  exact Kd.Q_ne ho hb ht
theorem IsS84.apartS {w0 W : World} {g : Nat} {f0 : List Int} {f1 : Int} {f2 : Int} {α : Type} {d : Kd α} {e : Nat} {base : Nat} {ok : Nat → Prop} {v : Value} {xs : List α} (h : IsS84 w0 W g f0 f1 f2) (ho : d.S e W base ok v xs) (ht : ∀ q, q ∈ e :: d.E → q ≠ 84) : d.S e W base (fun k => ok k ∧ k ≠ g) v xs := by
  obtain ⟨A0, c0, hb, hg, hr0⟩ := h
  exact Kd.S_types ho hb ht
theorem IsS84.own_neS {w0 W : World} {g : Nat} {f0 : List Int} {f1 : Int} {f2 : Int} {α : Type} {d : Kd α} {e : Nat} {base : Nat} {ok : Nat → Prop} {v : Value} {xs : List α} (h : IsS84 w0 W g f0 f1 f2) (ho : d.S e W base ok v xs) (ht : e ≠ 84) : some g ≠ v.ownBlock := by
  obtain ⟨A0, c0, hb, hg, hr0⟩ := h
  exact Kd.S_ne ho hb ht
theorem IsS84.lt {w0 W : World} {g : Nat} {f0 : List Int} {f1 : Int} {f2 : Int} (h : IsS84 w0 W g f0 f1 f2) : g < W.heap.size := by
  obtain ⟨A0, c0, hb, hg, hr0⟩ := h
  exact blk_lt hb
theorem IsS84.ge {w0 W : World} {g : Nat} {f0 : List Int} {f1 : Int} {f2 : Int} (h : IsS84 w0 W g f0 f1 f2) : w0.heap.size ≤ g := by
  obtain ⟨A0, c0, hb, hg, hr0⟩ := h
  exact hg
theorem IsS84.ne_blk {w0 W : World} {g : Nat} {f0 : List Int} {f1 : Int} {f2 : Int} {a : Nat} {cs : Array Value} {t : TypeId} {fr : Nat × Nat} (h : IsS84 w0 W g f0 f1 f2) (hb2 : W.heap[a]? = some (.cells cs t fr)) (ht : t ≠ 84) : g ≠ a := by
  obtain ⟨A0, c0, hb, hg, hr0⟩ := h
  rintro rfl
  rw [hb] at hb2
  injection hb2 with hb2
  injection hb2 with _ ht2
  exact ht ht2.symm
theorem IsS84.far {w0 W : World} {g : Nat} {f0 : List Int} {f1 : Int} {f2 : Int} {p : Addr} (h : IsS84 w0 W g f0 f1 f2) (hne : g ≠ p.block) (u : Value) : IsS84 w0 (W.setCell p u) g f0 f1 f2 := by
  obtain ⟨A0, c0, hb, hg, hr0⟩ := h
  exact ⟨A0, c0, bR hb hne u, hg, hr0⟩
theorem cellS84_0 {W : World} {g : Nat} {A0 : Option Addr} {c0 : Nat} {f0 : List Int} {f1 : Int} {f2 : Int} (h : W.heap[g]? = some (.cells #[.slice A0 f0.length c0, .int .i64 f1, .int .i64 f2] 84 (0, 0))) : W.cell? ⟨g, 0, none⟩ = some (.slice A0 f0.length c0) := (bC h 0).trans rfl
theorem cellS84_1 {W : World} {g : Nat} {A0 : Option Addr} {c0 : Nat} {f0 : List Int} {f1 : Int} {f2 : Int} (h : W.heap[g]? = some (.cells #[.slice A0 f0.length c0, .int .i64 f1, .int .i64 f2] 84 (0, 0))) : W.cell? ⟨g, 1, none⟩ = some (.int .i64 f1) := (bC h 1).trans rfl
theorem IsS84.cell_1 {w0 W : World} {g : Nat} {f0 : List Int} {f1 : Int} {f2 : Int} (h : IsS84 w0 W g f0 f1 f2) : W.cell? ⟨g, 1, none⟩ = some (.int .i64 f1) := by
  obtain ⟨A0, c0, hb, hg, hr0⟩ := h
  exact cellS84_1 hb
theorem IsS84.set_1 {w0 W : World} {g : Nat} {f0 : List Int} {f1 : Int} {f2 : Int} (h : IsS84 w0 W g f0 f1 f2) (x : Int) : IsS84 w0 (W.setCell ⟨g, 1, none⟩ (.int .i64 x)) g f0 x f2 := by
  obtain ⟨A0, c0, hb, hg, hr0⟩ := h
  exact ⟨A0, c0, by simpa using blk_set hb 1 (.int .i64 x), hg, hr0⟩
theorem cellS84_2 {W : World} {g : Nat} {A0 : Option Addr} {c0 : Nat} {f0 : List Int} {f1 : Int} {f2 : Int} (h : W.heap[g]? = some (.cells #[.slice A0 f0.length c0, .int .i64 f1, .int .i64 f2] 84 (0, 0))) : W.cell? ⟨g, 2, none⟩ = some (.int .i64 f2) := (bC h 2).trans rfl
theorem IsS84.cell_2 {w0 W : World} {g : Nat} {f0 : List Int} {f1 : Int} {f2 : Int} (h : IsS84 w0 W g f0 f1 f2) : W.cell? ⟨g, 2, none⟩ = some (.int .i64 f2) := by
  obtain ⟨A0, c0, hb, hg, hr0⟩ := h
  exact cellS84_2 hb
theorem IsS84.set_2 {w0 W : World} {g : Nat} {f0 : List Int} {f1 : Int} {f2 : Int} (h : IsS84 w0 W g f0 f1 f2) (x : Int) : IsS84 w0 (W.setCell ⟨g, 2, none⟩ (.int .i64 x)) g f0 f1 x := by
  obtain ⟨A0, c0, hb, hg, hr0⟩ := h
  exact ⟨A0, c0, by simpa using blk_set hb 2 (.int .i64 x), hg, hr0⟩
theorem IsS84.new (w0 W : World) (A0 : Option Addr) (c0 : Nat) (f0 : List Int) (f1 : Int) (f2 : Int) (hB : Below w0.heap.size w0 W) (hr0 : f0.length ≤ c0 ∧ Kd.C (Kd.int .u8) w0 A0 f0.length f0) : IsS84 w0 (W.alloc (.cells #[.slice A0 f0.length c0, .int .i64 f1, .int .i64 f2] 84)) W.heap.size f0 f1 f2 := ⟨A0, c0, by simpa using heap_alloc_new W _, hB.size, hr0⟩

/-! ### record_reader_number: function 60 -/
def record_reader_number.f (k : Nat) (s0_0 : List Int) (s0_1 : Int) (s0_2 : Int) (a1 : Int) : Option (Int × Int × Int) := if s0_2 = 0 then (if 0 ≤ s0_1 then (if s0_1 ≤ (s0_0.length : Int) then ((varint_Get.f k (s0_0.drop (s0_1 : Int).toNat)).bind fun bt359 => (if bt359.2.2 = 0 then (if bt359.1 > a1 then (some (bt359.1, wrap64 (s0_1 + bt359.2.1), 2)) else (some (bt359.1, wrap64 (s0_1 + bt359.2.1), bt359.2.2))) else (some (bt359.1, wrap64 (s0_1 + bt359.2.1), bt359.2.2)))) else (none)) else (none)) else (some (0, s0_1, s0_2))
theorem record_reader_number.mono : ∀ a0 a1 a2 a3 k, LeO (record_reader_number.f k a0 a1 a2 a3) (record_reader_number.f (k + 1) a0 a1 a2 a3) := by
  intro a0 a1 a2 a3 k
  unfold record_reader_number.f
  repeat' first
      | (with_reducible exact LeO.refl _)
      | (with_reducible exact LeO.none _)
      | (with_reducible refine LeO.ite ?_ ?_)
      | (with_reducible refine LeO.bind ?_ (fun _ => ?_))
      | exact varint_Get.mono _ _
      | exact LeO.none _
      | refine LeO.ite ?_ ?_
      | refine LeO.bind ?_ (fun _ => ?_)
set_option maxHeartbeats 8000000 in
set_option maxRecDepth 100000 in
theorem record_reader_number.calls (k : Nat) (g : Nat) (s0_0 : List Int) (s0_1 : Int) (s0_2 : Int) (a1 : Int) (r1 : Int) (r2 : Int) (r3 : Int) (w0 w : World) (hI : IsS84 w0 w g s0_0 s0_1 s0_2) (hB : Below w0.heap.size w0 w) (h : record_reader_number.f k s0_0 s0_1 s0_2 a1 = some (r1, r2, r3)) :
    Calls Try.prog 60 #[.pointer (some ⟨g, 0, none⟩), .int .u64 a1] w fun e w' => e = .returned (.int .u64 r1) ∧ IsS84 w0 w' g s0_0 r2 r3 ∧ Below w0.heap.size w0 w' ∧ KeepBut w w' g none := by
  have HI0 := Aside0.mk hI
  have HK := Aside0.mk (KeepBut.refl w g none)
  have HL := Aside0.mk hB.size
  clear hI
  have HW0 := Aside0.mk hB.size
  have HB := Aside0.mk hB
  have HBE := Aside0.mk hB
  clear hB
  have H : (if s0_2 = 0 then (if 0 ≤ s0_1 then (if s0_1 ≤ (s0_0.length : Int) then ((varint_Get.f k (s0_0.drop (s0_1 : Int).toNat)).bind fun bt359 => (if bt359.2.2 = 0 then (if bt359.1 > a1 then (some (bt359.1, wrap64 (s0_1 + bt359.2.1), 2)) else (some (bt359.1, wrap64 (s0_1 + bt359.2.1), bt359.2.2))) else (some (bt359.1, wrap64 (s0_1 + bt359.2.1), bt359.2.2)))) else (none)) else (none)) else (some (0, s0_1, s0_2))) = some (r1, r2, r3) := h
  clear h
  by_cases c3 : s0_2 = 0
  · rw [if_pos c3] at H
    have c3b0 : (s0_2 == 0) = true := beq_iff_eq.mpr c3
    have c3b1 : (s0_2 != 0) = false := bne_eq_false_iff_eq.mpr c3
    clear c3
    by_cases c4 : 0 ≤ s0_1
    · rw [if_pos c4] at H
      have c4b0 := eq_true c4
      have c4b1 : decide (0 ≤ s0_1) = true := decide_eq_true c4
      clear c4
      by_cases c5 : s0_1 ≤ (s0_0.length : Int)
      · rw [if_pos c5] at H
        have c5b0 := eq_true c5
        have c5b1 : decide (s0_1 ≤ (s0_0.length : Int)) = true := decide_eq_true c5
        clear c5
        replace H := Option.bind_eq_some_iff.mp H
        obtain ⟨⟨t359, t360, t361⟩, A60, H⟩ := H
        replace H : (if t361 = 0 then (if t359 > a1 then (some (t359, wrap64 (s0_1 + t360), 2)) else (some (t359, wrap64 (s0_1 + t360), t361))) else (some (t359, wrap64 (s0_1 + t360), t361))) = some (r1, r2, r3) := H
        have A6 := Aside0.mk A60
        clear A60
        by_cases c7 : t361 = 0
        · rw [if_pos c7] at H
          have c7b0 : (t361 == 0) = true := beq_iff_eq.mpr c7
          have c7b1 : (t361 != 0) = false := bne_eq_false_iff_eq.mpr c7
          clear c7
          by_cases c8 : t359 > a1
          · rw [if_pos c8] at H
            have c8b0 : decide (a1 < t359) = true := decide_eq_true c8
            clear c8
            simp only [Option.some.injEq, Prod.mk.injEq] at H
            obtain ⟨rfl, rfl, rfl⟩ := H
            obtain ⟨ASz9_0, cSz9_0, HGz9, hgz9, HSz9_0⟩ := HI0.out
            have hcz9_0 := cellS84_0 HGz9
            have hcz9_1 := cellS84_1 HGz9
            have hcz9_2 := cellS84_2 HGz9
            have hfz9_1 := bF HGz9 1
            have hfz9_2 := bF HGz9 2
            clear HGz9 hgz9
            obtain ⟨i010, hi010, _, hsz10, _⟩ := info_parts info5
            obtain ⟨A10, hcut10, hA10, hC10⟩ := print_drop_of (P := Try.prog) (Value.int .u8) 0 37 5 .i64 Try.underlying37 hi010 hsz10 ASz9_0 cSz9_0 s0_0 s0_1 (of_decide_eq_true (by first | (with_reducible assumption) | assumption)) (of_decide_eq_true (by first | (with_reducible assumption) | assumption)) HSz9_0.1
            have HR358 := Aside0.mk (Kd.C_of_reads (h1 := fun _ => rfl) (hA10 _ (Kd.reads_of_C (Kd.C_below HSz9_0.2 HBE.out))))
            have HC358 := Aside0.mk hC10
            have hf358 : ∀ ad : Addr, A10 = some ad → 0 < (s0_0.drop (s0_1 : Int).toNat).length → ad.block ≠ g := Kd.far_C 0 (Kd.C_of_reads (h1 := fun _ => rfl) (hA10 _ (Kd.reads_of_C HSz9_0.2))) (IsS84.ge HI0.out)
            clear hA10 hC10 hi010 hsz10
            go_enter Try.func60, Try.ntmps60
            go_wp2_with (first | (go_at_call 56; refine calls_of_args (args' := #[.slice A10 (s0_0.drop (s0_1 : Int).toNat).length (cSz9_0 - s0_1.toNat)]) (by first | (rw [show (s0_0.drop (s0_1 : Int).toNat).length = (s0_0.length - s0_1.toNat) from List.length_drop] <;> rfl) | rfl) ?_; (with_reducible refine (varint_Get.calls k _ _ (s0_0.drop (s0_1 : Int).toNat) t359 t360 t361 _ ?side1 ?side2 A6.out).mono ?_); (case side1 => exact Kd.C_keep 0 HR358.out (by repeat (first | (with_reducible first | exact HK.out | apply KeepBut.set_ | apply keep_drewN | apply keep_drew | apply keep_alloc) | exact HK.out)) hf358); (case side2 => exact HC358.out); rintro e w' ⟨rfl, ⟨nd, rfl⟩⟩; (try first | exact ⟨rfl, _, World.drewN_drewN _ _ _⟩ | exact ⟨rfl, _, Eq.trans (World.drewN_drewN _ _ _) (congrArg (World.drewN _) (Nat.add_assoc _ _ _))⟩)))
            repeat (go_quiet (first | (go_at_call 56; refine calls_of_args (args' := #[.slice A10 (s0_0.drop (s0_1 : Int).toNat).length (cSz9_0 - s0_1.toNat)]) (by first | (rw [show (s0_0.drop (s0_1 : Int).toNat).length = (s0_0.length - s0_1.toNat) from List.length_drop] <;> rfl) | rfl) ?_; (with_reducible refine (varint_Get.calls k _ _ (s0_0.drop (s0_1 : Int).toNat) t359 t360 t361 _ ?side1 ?side2 A6.out).mono ?_); (case side1 => exact Kd.C_keep 0 HR358.out (by repeat (first | (with_reducible first | exact HK.out | apply KeepBut.set_ | apply keep_drewN | apply keep_drew | apply keep_alloc) | exact HK.out)) hf358); (case side2 => exact HC358.out); rintro e w' ⟨rfl, ⟨nd, rfl⟩⟩; (try first | exact ⟨rfl, _, World.drewN_drewN _ _ _⟩ | exact ⟨rfl, _, Eq.trans (World.drewN_drewN _ _ _) (congrArg (World.drewN _) (Nat.add_assoc _ _ _))⟩))); try go_wp2_with (first | (go_at_call 56; refine calls_of_args (args' := #[.slice A10 (s0_0.drop (s0_1 : Int).toNat).length (cSz9_0 - s0_1.toNat)]) (by first | (rw [show (s0_0.drop (s0_1 : Int).toNat).length = (s0_0.length - s0_1.toNat) from List.length_drop] <;> rfl) | rfl) ?_; (with_reducible refine (varint_Get.calls k _ _ (s0_0.drop (s0_1 : Int).toNat) t359 t360 t361 _ ?side1 ?side2 A6.out).mono ?_); (case side1 => exact Kd.C_keep 0 HR358.out (by repeat (first | (with_reducible first | exact HK.out | apply KeepBut.set_ | apply keep_drewN | apply keep_drew | apply keep_alloc) | exact HK.out)) hf358); (case side2 => exact HC358.out); rintro e w' ⟨rfl, ⟨nd, rfl⟩⟩; (try first | exact ⟨rfl, _, World.drewN_drewN _ _ _⟩ | exact ⟨rfl, _, Eq.trans (World.drewN_drewN _ _ _) (congrArg (World.drewN _) (Nat.add_assoc _ _ _))⟩))))
            go_ret
            exact ⟨by first | rfl | (simp [*, eN, eS] <;> rfl) | (simp [eN, eS]; generalize ByteArray.toList _ = l_; cases l_ <;> rfl), by repeat (first | (with_reducible first | exact HI0.out | apply IsS84.alloc | apply IsS84.drewN | apply IsS84.drew | apply IsS84.set_1 | apply IsS84.set_2) | exact HI0.out), by repeat (first | (with_reducible first | exact HB.out | apply vA | apply vN | apply vD | refine vS ?_ (IsS84.ge HI0.out)) | exact HB.out), by repeat (first | (with_reducible first | exact HK.out | apply KeepBut.set_ | apply keep_drewN | apply keep_drew | apply keep_alloc) | exact HK.out)⟩
          · rw [if_neg c8] at H
            have c8b0 : decide (a1 < t359) = false := decide_eq_false c8
            clear c8
            simp only [Option.some.injEq, Prod.mk.injEq] at H
            obtain ⟨rfl, rfl, rfl⟩ := H
            obtain ⟨ASz11_0, cSz11_0, HGz11, hgz11, HSz11_0⟩ := HI0.out
            have hcz11_0 := cellS84_0 HGz11
            have hcz11_1 := cellS84_1 HGz11
            have hcz11_2 := cellS84_2 HGz11
            have hfz11_1 := bF HGz11 1
            have hfz11_2 := bF HGz11 2
            clear HGz11 hgz11
            obtain ⟨i012, hi012, _, hsz12, _⟩ := info_parts info5
            obtain ⟨A12, hcut12, hA12, hC12⟩ := print_drop_of (P := Try.prog) (Value.int .u8) 0 37 5 .i64 Try.underlying37 hi012 hsz12 ASz11_0 cSz11_0 s0_0 s0_1 (of_decide_eq_true (by first | (with_reducible assumption) | assumption)) (of_decide_eq_true (by first | (with_reducible assumption) | assumption)) HSz11_0.1
            have HR358 := Aside0.mk (Kd.C_of_reads (h1 := fun _ => rfl) (hA12 _ (Kd.reads_of_C (Kd.C_below HSz11_0.2 HBE.out))))
            have HC358 := Aside0.mk hC12
            have hf358 : ∀ ad : Addr, A12 = some ad → 0 < (s0_0.drop (s0_1 : Int).toNat).length → ad.block ≠ g := Kd.far_C 0 (Kd.C_of_reads (h1 := fun _ => rfl) (hA12 _ (Kd.reads_of_C HSz11_0.2))) (IsS84.ge HI0.out)
            clear hA12 hC12 hi012 hsz12
            go_enter Try.func60, Try.ntmps60
            go_wp2_with (first | (go_at_call 56; refine calls_of_args (args' := #[.slice A12 (s0_0.drop (s0_1 : Int).toNat).length (cSz11_0 - s0_1.toNat)]) (by first | (rw [show (s0_0.drop (s0_1 : Int).toNat).length = (s0_0.length - s0_1.toNat) from List.length_drop] <;> rfl) | rfl) ?_; (with_reducible refine (varint_Get.calls k _ _ (s0_0.drop (s0_1 : Int).toNat) t359 t360 t361 _ ?side1 ?side2 A6.out).mono ?_); (case side1 => exact Kd.C_keep 0 HR358.out (by repeat (first | (with_reducible first | exact HK.out | apply KeepBut.set_ | apply keep_drewN | apply keep_drew | apply keep_alloc) | exact HK.out)) hf358); (case side2 => exact HC358.out); rintro e w' ⟨rfl, ⟨nd, rfl⟩⟩; (try first | exact ⟨rfl, _, World.drewN_drewN _ _ _⟩ | exact ⟨rfl, _, Eq.trans (World.drewN_drewN _ _ _) (congrArg (World.drewN _) (Nat.add_assoc _ _ _))⟩)))
            repeat (go_quiet (first | (go_at_call 56; refine calls_of_args (args' := #[.slice A12 (s0_0.drop (s0_1 : Int).toNat).length (cSz11_0 - s0_1.toNat)]) (by first | (rw [show (s0_0.drop (s0_1 : Int).toNat).length = (s0_0.length - s0_1.toNat) from List.length_drop] <;> rfl) | rfl) ?_; (with_reducible refine (varint_Get.calls k _ _ (s0_0.drop (s0_1 : Int).toNat) t359 t360 t361 _ ?side1 ?side2 A6.out).mono ?_); (case side1 => exact Kd.C_keep 0 HR358.out (by repeat (first | (with_reducible first | exact HK.out | apply KeepBut.set_ | apply keep_drewN | apply keep_drew | apply keep_alloc) | exact HK.out)) hf358); (case side2 => exact HC358.out); rintro e w' ⟨rfl, ⟨nd, rfl⟩⟩; (try first | exact ⟨rfl, _, World.drewN_drewN _ _ _⟩ | exact ⟨rfl, _, Eq.trans (World.drewN_drewN _ _ _) (congrArg (World.drewN _) (Nat.add_assoc _ _ _))⟩))); try go_wp2_with (first | (go_at_call 56; refine calls_of_args (args' := #[.slice A12 (s0_0.drop (s0_1 : Int).toNat).length (cSz11_0 - s0_1.toNat)]) (by first | (rw [show (s0_0.drop (s0_1 : Int).toNat).length = (s0_0.length - s0_1.toNat) from List.length_drop] <;> rfl) | rfl) ?_; (with_reducible refine (varint_Get.calls k _ _ (s0_0.drop (s0_1 : Int).toNat) t359 t360 t361 _ ?side1 ?side2 A6.out).mono ?_); (case side1 => exact Kd.C_keep 0 HR358.out (by repeat (first | (with_reducible first | exact HK.out | apply KeepBut.set_ | apply keep_drewN | apply keep_drew | apply keep_alloc) | exact HK.out)) hf358); (case side2 => exact HC358.out); rintro e w' ⟨rfl, ⟨nd, rfl⟩⟩; (try first | exact ⟨rfl, _, World.drewN_drewN _ _ _⟩ | exact ⟨rfl, _, Eq.trans (World.drewN_drewN _ _ _) (congrArg (World.drewN _) (Nat.add_assoc _ _ _))⟩))))
            go_ret
            exact ⟨by first | rfl | (simp [*, eN, eS] <;> rfl) | (simp [eN, eS]; generalize ByteArray.toList _ = l_; cases l_ <;> rfl), by repeat (first | (with_reducible first | exact HI0.out | apply IsS84.alloc | apply IsS84.drewN | apply IsS84.drew | apply IsS84.set_1 | apply IsS84.set_2) | exact HI0.out), by repeat (first | (with_reducible first | exact HB.out | apply vA | apply vN | apply vD | refine vS ?_ (IsS84.ge HI0.out)) | exact HB.out), by repeat (first | (with_reducible first | exact HK.out | apply KeepBut.set_ | apply keep_drewN | apply keep_drew | apply keep_alloc) | exact HK.out)⟩
        · rw [if_neg c7] at H
          have c7b0 : (t361 == 0) = false := beq_eq_false_iff_ne.mpr c7
          have c7b1 : (t361 != 0) = true := bne_iff_ne.mpr c7
          simp only [Option.some.injEq, Prod.mk.injEq] at H
          obtain ⟨rfl, rfl, rfl⟩ := H
          obtain ⟨ASz13_0, cSz13_0, HGz13, hgz13, HSz13_0⟩ := HI0.out
          have hcz13_0 := cellS84_0 HGz13
          have hcz13_1 := cellS84_1 HGz13
          have hcz13_2 := cellS84_2 HGz13
          have hfz13_1 := bF HGz13 1
          have hfz13_2 := bF HGz13 2
          clear HGz13 hgz13
          obtain ⟨i014, hi014, _, hsz14, _⟩ := info_parts info5
          obtain ⟨A14, hcut14, hA14, hC14⟩ := print_drop_of (P := Try.prog) (Value.int .u8) 0 37 5 .i64 Try.underlying37 hi014 hsz14 ASz13_0 cSz13_0 s0_0 s0_1 (of_decide_eq_true (by first | (with_reducible assumption) | assumption)) (of_decide_eq_true (by first | (with_reducible assumption) | assumption)) HSz13_0.1
          have HR358 := Aside0.mk (Kd.C_of_reads (h1 := fun _ => rfl) (hA14 _ (Kd.reads_of_C (Kd.C_below HSz13_0.2 HBE.out))))
          have HC358 := Aside0.mk hC14
          have hf358 : ∀ ad : Addr, A14 = some ad → 0 < (s0_0.drop (s0_1 : Int).toNat).length → ad.block ≠ g := Kd.far_C 0 (Kd.C_of_reads (h1 := fun _ => rfl) (hA14 _ (Kd.reads_of_C HSz13_0.2))) (IsS84.ge HI0.out)
          clear hA14 hC14 hi014 hsz14
          go_enter Try.func60, Try.ntmps60
          go_wp2_with (first | (go_at_call 56; refine calls_of_args (args' := #[.slice A14 (s0_0.drop (s0_1 : Int).toNat).length (cSz13_0 - s0_1.toNat)]) (by first | (rw [show (s0_0.drop (s0_1 : Int).toNat).length = (s0_0.length - s0_1.toNat) from List.length_drop] <;> rfl) | rfl) ?_; (with_reducible refine (varint_Get.calls k _ _ (s0_0.drop (s0_1 : Int).toNat) t359 t360 t361 _ ?side1 ?side2 A6.out).mono ?_); (case side1 => exact Kd.C_keep 0 HR358.out (by repeat (first | (with_reducible first | exact HK.out | apply KeepBut.set_ | apply keep_drewN | apply keep_drew | apply keep_alloc) | exact HK.out)) hf358); (case side2 => exact HC358.out); rintro e w' ⟨rfl, ⟨nd, rfl⟩⟩; (try first | exact ⟨rfl, _, World.drewN_drewN _ _ _⟩ | exact ⟨rfl, _, Eq.trans (World.drewN_drewN _ _ _) (congrArg (World.drewN _) (Nat.add_assoc _ _ _))⟩)))
          repeat (go_quiet (first | (go_at_call 56; refine calls_of_args (args' := #[.slice A14 (s0_0.drop (s0_1 : Int).toNat).length (cSz13_0 - s0_1.toNat)]) (by first | (rw [show (s0_0.drop (s0_1 : Int).toNat).length = (s0_0.length - s0_1.toNat) from List.length_drop] <;> rfl) | rfl) ?_; (with_reducible refine (varint_Get.calls k _ _ (s0_0.drop (s0_1 : Int).toNat) t359 t360 t361 _ ?side1 ?side2 A6.out).mono ?_); (case side1 => exact Kd.C_keep 0 HR358.out (by repeat (first | (with_reducible first | exact HK.out | apply KeepBut.set_ | apply keep_drewN | apply keep_drew | apply keep_alloc) | exact HK.out)) hf358); (case side2 => exact HC358.out); rintro e w' ⟨rfl, ⟨nd, rfl⟩⟩; (try first | exact ⟨rfl, _, World.drewN_drewN _ _ _⟩ | exact ⟨rfl, _, Eq.trans (World.drewN_drewN _ _ _) (congrArg (World.drewN _) (Nat.add_assoc _ _ _))⟩))); try go_wp2_with (first | (go_at_call 56; refine calls_of_args (args' := #[.slice A14 (s0_0.drop (s0_1 : Int).toNat).length (cSz13_0 - s0_1.toNat)]) (by first | (rw [show (s0_0.drop (s0_1 : Int).toNat).length = (s0_0.length - s0_1.toNat) from List.length_drop] <;> rfl) | rfl) ?_; (with_reducible refine (varint_Get.calls k _ _ (s0_0.drop (s0_1 : Int).toNat) t359 t360 t361 _ ?side1 ?side2 A6.out).mono ?_); (case side1 => exact Kd.C_keep 0 HR358.out (by repeat (first | (with_reducible first | exact HK.out | apply KeepBut.set_ | apply keep_drewN | apply keep_drew | apply keep_alloc) | exact HK.out)) hf358); (case side2 => exact HC358.out); rintro e w' ⟨rfl, ⟨nd, rfl⟩⟩; (try first | exact ⟨rfl, _, World.drewN_drewN _ _ _⟩ | exact ⟨rfl, _, Eq.trans (World.drewN_drewN _ _ _) (congrArg (World.drewN _) (Nat.add_assoc _ _ _))⟩))))
          go_ret
          exact ⟨by first | rfl | (simp [*, eN, eS] <;> rfl) | (simp [eN, eS]; generalize ByteArray.toList _ = l_; cases l_ <;> rfl), by repeat (first | (with_reducible first | exact HI0.out | apply IsS84.alloc | apply IsS84.drewN | apply IsS84.drew | apply IsS84.set_1 | apply IsS84.set_2) | exact HI0.out), by repeat (first | (with_reducible first | exact HB.out | apply vA | apply vN | apply vD | refine vS ?_ (IsS84.ge HI0.out)) | exact HB.out), by repeat (first | (with_reducible first | exact HK.out | apply KeepBut.set_ | apply keep_drewN | apply keep_drew | apply keep_alloc) | exact HK.out)⟩
      · rw [if_neg c5] at H
        exact absurd H (by simp)
    · rw [if_neg c4] at H
      exact absurd H (by simp)
  · rw [if_neg c3] at H
    have c3b0 : (s0_2 == 0) = false := beq_eq_false_iff_ne.mpr c3
    have c3b1 : (s0_2 != 0) = true := bne_iff_ne.mpr c3
    simp only [Option.some.injEq, Prod.mk.injEq] at H
    obtain ⟨rfl, rfl, rfl⟩ := H
    obtain ⟨ASz15_0, cSz15_0, HGz15, hgz15, HSz15_0⟩ := HI0.out
    have hcz15_0 := cellS84_0 HGz15
    have hcz15_1 := cellS84_1 HGz15
    have hcz15_2 := cellS84_2 HGz15
    have hfz15_1 := bF HGz15 1
    have hfz15_2 := bF HGz15 2
    clear HGz15 hgz15
    go_enter Try.func60, Try.ntmps60
    go_wp2
    repeat (go_quiet (fail); try go_wp2)
    go_ret
    exact ⟨by first | rfl | (simp [*, eN, eS] <;> rfl) | (simp [eN, eS]; generalize ByteArray.toList _ = l_; cases l_ <;> rfl), by repeat (first | (with_reducible first | exact HI0.out | apply IsS84.alloc | apply IsS84.drewN | apply IsS84.drew | apply IsS84.set_1 | apply IsS84.set_2) | exact HI0.out), by repeat (first | (with_reducible first | exact HB.out | apply vA | apply vN | apply vD | refine vS ?_ (IsS84.ge HI0.out)) | exact HB.out), by repeat (first | (with_reducible first | exact HK.out | apply KeepBut.set_ | apply keep_drewN | apply keep_drew | apply keep_alloc) | exact HK.out)⟩

/-! ### varint_Unfold: function 61 -/
def varint_Unfold.f (a0 : Int) : Option (Int) := if (Go.bits .and .u64 a0 1) = 1 then (some (Go.bits .xor .i64 (-1) (wrap64 (a0 / 2)))) else (some (wrap64 (a0 / 2)))
set_option maxHeartbeats 8000000 in
set_option maxRecDepth 100000 in
theorem varint_Unfold.calls (a0 : Int) (r : Int) (w : World) (h : varint_Unfold.f a0 = some r) :
    Calls Try.prog 61 #[.int .u64 a0] w fun e w' => e = .returned (.int .i64 r) ∧ Drawn0 w w' := by
  have H : (if (Go.bits .and .u64 a0 1) = 1 then (some (Go.bits .xor .i64 (-1) (wrap64 (a0 / 2)))) else (some (wrap64 (a0 / 2)))) = some r := h
  clear h
  by_cases c2 : (Go.bits .and .u64 a0 1) = 1
  · rw [if_pos c2] at H
    have c2b0 : ((Go.bits .and .u64 a0 1) == 1) = true := beq_iff_eq.mpr c2
    have c2b1 : ((Go.bits .and .u64 a0 1) != 1) = false := bne_eq_false_iff_eq.mpr c2
    clear c2
    obtain rfl := Option.some.inj H
    go_enter Try.func61, Try.ntmps61
    go_wp2
    go_ret
    exact ⟨by first | rfl | (simp; done) | (simp [*]; done), by repeat (first | exact Drawn0.refl _ | apply Drawn0.step)⟩
  · rw [if_neg c2] at H
    have c2b0 : ((Go.bits .and .u64 a0 1) == 1) = false := beq_eq_false_iff_ne.mpr c2
    have c2b1 : ((Go.bits .and .u64 a0 1) != 1) = true := bne_iff_ne.mpr c2
    obtain rfl := Option.some.inj H
    go_enter Try.func61, Try.ntmps61
    go_wp2
    go_ret
    exact ⟨by first | rfl | (simp; done) | (simp [*]; done), by repeat (first | exact Drawn0.refl _ | apply Drawn0.step)⟩
/-! ### record_reader_sign: function 62 -/
def record_reader_sign.f (s0_0 : List Int) (s0_1 : Int) (s0_2 : Int) : Option (Bool × Int × Int) := if s0_2 = 0 then (if s0_1 = (s0_0.length : Int) then (some (false, s0_1, 4)) else (if 0 ≤ s0_1 then (if s0_1 < (s0_0.length : Int) then (if (rd s0_0 s0_1) > 1 then (if 0 ≤ (wrap64 ((wrap64 (s0_1 + 1)) - 1)) then (if (wrap64 ((wrap64 (s0_1 + 1)) - 1)) < (s0_0.length : Int) then (some (((rd s0_0 (wrap64 ((wrap64 (s0_1 + 1)) - 1))) == 1), wrap64 (s0_1 + 1), 2)) else (none)) else (none)) else (if 0 ≤ (wrap64 ((wrap64 (s0_1 + 1)) - 1)) then (if (wrap64 ((wrap64 (s0_1 + 1)) - 1)) < (s0_0.length : Int) then (some (((rd s0_0 (wrap64 ((wrap64 (s0_1 + 1)) - 1))) == 1), wrap64 (s0_1 + 1), s0_2)) else (none)) else (none))) else (none)) else (none))) else (some (false, s0_1, s0_2))
set_option maxHeartbeats 8000000 in
set_option maxRecDepth 100000 in
theorem record_reader_sign.calls (g : Nat) (s0_0 : List Int) (s0_1 : Int) (s0_2 : Int) (r1 : Bool) (r2 : Int) (r3 : Int) (w0 w : World) (hI : IsS84 w0 w g s0_0 s0_1 s0_2) (hB : Below w0.heap.size w0 w) (h : record_reader_sign.f s0_0 s0_1 s0_2 = some (r1, r2, r3)) :
    Calls Try.prog 62 #[.pointer (some ⟨g, 0, none⟩)] w fun e w' => e = .returned (.bool r1) ∧ IsS84 w0 w' g s0_0 r2 r3 ∧ Below w0.heap.size w0 w' ∧ KeepBut w w' g none := by
  have HI0 := Aside0.mk hI
  have HK := Aside0.mk (KeepBut.refl w g none)
  have HL := Aside0.mk hB.size
  clear hI
  have HW0 := Aside0.mk hB.size
  have HB := Aside0.mk hB
  have HBE := Aside0.mk hB
  clear hB
  have H : (if s0_2 = 0 then (if s0_1 = (s0_0.length : Int) then (some (false, s0_1, 4)) else (if 0 ≤ s0_1 then (if s0_1 < (s0_0.length : Int) then (if (rd s0_0 s0_1) > 1 then (if 0 ≤ (wrap64 ((wrap64 (s0_1 + 1)) - 1)) then (if (wrap64 ((wrap64 (s0_1 + 1)) - 1)) < (s0_0.length : Int) then (some (((rd s0_0 (wrap64 ((wrap64 (s0_1 + 1)) - 1))) == 1), wrap64 (s0_1 + 1), 2)) else (none)) else (none)) else (if 0 ≤ (wrap64 ((wrap64 (s0_1 + 1)) - 1)) then (if (wrap64 ((wrap64 (s0_1 + 1)) - 1)) < (s0_0.length : Int) then (some (((rd s0_0 (wrap64 ((wrap64 (s0_1 + 1)) - 1))) == 1), wrap64 (s0_1 + 1), s0_2)) else (none)) else (none))) else (none)) else (none))) else (some (false, s0_1, s0_2))) = some (r1, r2, r3) := h
  clear h
  by_cases c2 : s0_2 = 0
  · rw [if_pos c2] at H
    have c2b0 : (s0_2 == 0) = true := beq_iff_eq.mpr c2
    have c2b1 : (s0_2 != 0) = false := bne_eq_false_iff_eq.mpr c2
    clear c2
    by_cases c3 : s0_1 = (s0_0.length : Int)
    · rw [if_pos c3] at H
      have c3b0 : (s0_1 == (s0_0.length : Int)) = true := beq_iff_eq.mpr c3
      have c3b1 : (s0_1 != (s0_0.length : Int)) = false := bne_eq_false_iff_eq.mpr c3
      clear c3
      simp only [Option.some.injEq, Prod.mk.injEq] at H
      obtain ⟨rfl, rfl, rfl⟩ := H
      obtain ⟨ASz4_0, cSz4_0, HGz4, hgz4, HSz4_0⟩ := HI0.out
      have hcz4_0 := cellS84_0 HGz4
      have hcz4_1 := cellS84_1 HGz4
      have hcz4_2 := cellS84_2 HGz4
      have hfz4_1 := bF HGz4 1
      have hfz4_2 := bF HGz4 2
      clear HGz4 hgz4
      go_enter Try.func62, Try.ntmps62
      go_wp2
      repeat (go_quiet (fail); try go_wp2)
      go_ret
      exact ⟨by first | rfl | (simp [*, eN, eS] <;> rfl) | (simp [eN, eS]; generalize ByteArray.toList _ = l_; cases l_ <;> rfl), by repeat (first | (with_reducible first | exact HI0.out | apply IsS84.alloc | apply IsS84.drewN | apply IsS84.drew | apply IsS84.set_1 | apply IsS84.set_2) | exact HI0.out), by repeat (first | (with_reducible first | exact HB.out | apply vA | apply vN | apply vD | refine vS ?_ (IsS84.ge HI0.out)) | exact HB.out), by repeat (first | (with_reducible first | exact HK.out | apply KeepBut.set_ | apply keep_drewN | apply keep_drew | apply keep_alloc) | exact HK.out)⟩
    · rw [if_neg c3] at H
      have c3b0 : (s0_1 == (s0_0.length : Int)) = false := beq_eq_false_iff_ne.mpr c3
      have c3b1 : (s0_1 != (s0_0.length : Int)) = true := bne_iff_ne.mpr c3
      by_cases c5 : 0 ≤ s0_1
      · rw [if_pos c5] at H
        have c5b0 : decide (0 ≤ s0_1) = true := decide_eq_true c5
        clear c5
        by_cases c6 : s0_1 < (s0_0.length : Int)
        · rw [if_pos c6] at H
          have c6b0 : decide (s0_1 < (s0_0.length : Int)) = true := decide_eq_true c6
          clear c6
          by_cases c7 : (rd s0_0 s0_1) > 1
          · rw [if_pos c7] at H
            have c7b0 : decide (1 < (rd s0_0 s0_1)) = true := decide_eq_true c7
            clear c7
            obtain ⟨ji8, hji8⟩ : ∃ j_ : Int, (wrap64 ((wrap64 (s0_1 + 1)) - 1)) = j_ := ⟨_, rfl⟩
            replace H : (if 0 ≤ (ji8) then (if (ji8) < (s0_0.length : Int) then (some (((rd s0_0 (ji8)) == 1), wrap64 (s0_1 + 1), 2)) else (none)) else (none)) = some (r1, r2, r3) := by first | (rw [hji8] at H; exact H) | (simp only [hji8] at H ⊢; exact H)
            have hji8w : (IntKind.i64.wrap ((wrap64 (s0_1 + 1)) - 1)) = ji8 := (i64_w _).trans hji8
            by_cases c9 : 0 ≤ (ji8)
            · rw [if_pos c9] at H
              have c9b0 : decide (0 ≤ (ji8)) = true := decide_eq_true c9
              clear c9
              by_cases c10 : (ji8) < (s0_0.length : Int)
              · rw [if_pos c10] at H
                have c10b0 : decide ((ji8) < (s0_0.length : Int)) = true := decide_eq_true c10
                clear c10
                simp only [Option.some.injEq, Prod.mk.injEq] at H
                obtain ⟨rfl, rfl, rfl⟩ := H
                obtain ⟨ASz11_0, cSz11_0, HGz11, hgz11, HSz11_0⟩ := HI0.out
                have hcz11_0 := cellS84_0 HGz11
                have hcz11_1 := cellS84_1 HGz11
                have hcz11_2 := cellS84_2 HGz11
                have hfz11_1 := bF HGz11 1
                have hfz11_2 := bF HGz11 2
                clear HGz11 hgz11
                have p362 : 0 ≤ (s0_1 : Int) := of_decide_eq_true (by first | (with_reducible assumption) | assumption)
                have q362 : s0_1 < (s0_0.length : Int) := of_decide_eq_true (by first | (with_reducible assumption) | assumption)
                obtain ⟨ad362, e362, hx362_0⟩ := Kd.at_int HSz11_0.2 s0_1 p362 q362
                cases e362
                replace hx362_0 := pw_cell_below HB.out hx362_0
                replace p362 := eq_true p362
                replace q362 := eq_true q362
                have p363 : 0 ≤ ((ji8) : Int) := of_decide_eq_true (by first | (with_reducible assumption) | assumption)
                have q363 : (ji8) < (s0_0.length : Int) := of_decide_eq_true (by first | (with_reducible assumption) | assumption)
                obtain ⟨ad363, e363, hx363_0⟩ := Kd.at_int HSz11_0.2 (ji8) p363 q363
                obtain rfl : ad362 = ad363 := (by injection e363)
                have hn363_0 : ad362.block ≠ g := Nat.ne_of_lt (Nat.lt_of_lt_of_le (by have := World.block_lt_of_cell? _ _ hx363_0; first | rwa [add_block] at this | exact this) (IsS84.ge HI0.out))
                have hn363_1 : ad362.block ≠ g := Nat.ne_of_lt (Nat.lt_of_lt_of_le (by have := World.block_lt_of_cell? _ _ hx363_0; first | rwa [add_block] at this | exact this) (IsS84.ge HI0.out))
                replace hx363_0 := pw_cell_below HB.out hx363_0
                replace hx363_0 := (cell_far (p := ⟨g, 2, none⟩) (by first | (rw [add_block]; exact hn363_0) | (show (Addr.add _ _).block ≠ _; rw [add_block]; exact hn363_0) | exact hn363_0) (.int .i64 2)).trans hx363_0
                replace hx363_0 := (cell_far (p := ⟨g, 1, none⟩) (by first | (rw [add_block]; exact hn363_1) | (show (Addr.add _ _).block ≠ _; rw [add_block]; exact hn363_1) | exact hn363_1) (.int .i64 (wrap64 (s0_1 + 1)))).trans hx363_0
                (try have hy363_0 := fun (n_ : Nat) => (show ((((w.drewN n_).setCell ⟨g, 2, none⟩ (.int .i64 2)).setCell ⟨g, 1, none⟩ (.int .i64 (wrap64 (s0_1 + 1))))).cell? _ = some _ from hx363_0))
                clear hn363_0
                clear hn363_1
                replace p363 := eq_true p363
                replace q363 := eq_true q363
                go_enter Try.func62, Try.ntmps62
                go_wp2
                repeat (go_quiet (fail); try go_wp2)
                go_ret
                exact ⟨by first | rfl | (simp [eN, eS] <;> rfl) | (simp only [← hji8]; first | rfl | (simp [eN, eS] <;> rfl)) | (simp [*, eN, eS] <;> rfl) | (simp [eN, eS]; generalize ByteArray.toList _ = l_; cases l_ <;> rfl), by repeat (first | (with_reducible first | exact HI0.out | apply IsS84.alloc | apply IsS84.drewN | apply IsS84.drew | apply IsS84.set_1 | apply IsS84.set_2) | exact HI0.out), by repeat (first | (with_reducible first | exact HB.out | apply vA | apply vN | apply vD | refine vS ?_ (IsS84.ge HI0.out)) | exact HB.out), by repeat (first | (with_reducible first | exact HK.out | apply KeepBut.set_ | apply keep_drewN | apply keep_drew | apply keep_alloc) | exact HK.out)⟩
              · rw [if_neg c10] at H
                exact absurd H (by simp)
            · rw [if_neg c9] at H
              exact absurd H (by simp)
          · rw [if_neg c7] at H
            have c7b0 : decide (1 < (rd s0_0 s0_1)) = false := decide_eq_false c7
            clear c7
            obtain ⟨ji12, hji12⟩ : ∃ j_ : Int, (wrap64 ((wrap64 (s0_1 + 1)) - 1)) = j_ := ⟨_, rfl⟩
            replace H : (if 0 ≤ (ji12) then (if (ji12) < (s0_0.length : Int) then (some (((rd s0_0 (ji12)) == 1), wrap64 (s0_1 + 1), s0_2)) else (none)) else (none)) = some (r1, r2, r3) := by first | (rw [hji12] at H; exact H) | (simp only [hji12] at H ⊢; exact H)
            (try rw [hji12] at hji8)
            (try rw [hji12] at hji8w)
            have hji12w : (IntKind.i64.wrap ((wrap64 (s0_1 + 1)) - 1)) = ji12 := (i64_w _).trans hji12
            by_cases c13 : 0 ≤ (ji12)
            · rw [if_pos c13] at H
              have c13b0 : decide (0 ≤ (ji12)) = true := decide_eq_true c13
              clear c13
              by_cases c14 : (ji12) < (s0_0.length : Int)
              · rw [if_pos c14] at H
                have c14b0 : decide ((ji12) < (s0_0.length : Int)) = true := decide_eq_true c14
                clear c14
                simp only [Option.some.injEq, Prod.mk.injEq] at H
                obtain ⟨rfl, rfl, rfl⟩ := H
                obtain ⟨ASz15_0, cSz15_0, HGz15, hgz15, HSz15_0⟩ := HI0.out
                have hcz15_0 := cellS84_0 HGz15
                have hcz15_1 := cellS84_1 HGz15
                have hcz15_2 := cellS84_2 HGz15
                have hfz15_1 := bF HGz15 1
                have hfz15_2 := bF HGz15 2
                clear HGz15 hgz15
                have p362 : 0 ≤ (s0_1 : Int) := of_decide_eq_true (by first | (with_reducible assumption) | assumption)
                have q362 : s0_1 < (s0_0.length : Int) := of_decide_eq_true (by first | (with_reducible assumption) | assumption)
                obtain ⟨ad362, e362, hx362_0⟩ := Kd.at_int HSz15_0.2 s0_1 p362 q362
                cases e362
                replace hx362_0 := pw_cell_below HB.out hx362_0
                replace p362 := eq_true p362
                replace q362 := eq_true q362
                have p364 : 0 ≤ ((ji12) : Int) := of_decide_eq_true (by first | (with_reducible assumption) | assumption)
                have q364 : (ji12) < (s0_0.length : Int) := of_decide_eq_true (by first | (with_reducible assumption) | assumption)
                obtain ⟨ad364, e364, hx364_0⟩ := Kd.at_int HSz15_0.2 (ji12) p364 q364
                obtain rfl : ad362 = ad364 := (by injection e364)
                have hn364_0 : ad362.block ≠ g := Nat.ne_of_lt (Nat.lt_of_lt_of_le (by have := World.block_lt_of_cell? _ _ hx364_0; first | rwa [add_block] at this | exact this) (IsS84.ge HI0.out))
                replace hx364_0 := pw_cell_below HB.out hx364_0
                replace hx364_0 := (cell_far (p := ⟨g, 1, none⟩) (by first | (rw [add_block]; exact hn364_0) | (show (Addr.add _ _).block ≠ _; rw [add_block]; exact hn364_0) | exact hn364_0) (.int .i64 (wrap64 (s0_1 + 1)))).trans hx364_0
                (try have hy364_0 := fun (n_ : Nat) => (show (((w.drewN n_).setCell ⟨g, 1, none⟩ (.int .i64 (wrap64 (s0_1 + 1))))).cell? _ = some _ from hx364_0))
                clear hn364_0
                replace p364 := eq_true p364
                replace q364 := eq_true q364
                go_enter Try.func62, Try.ntmps62
                go_wp2
                repeat (go_quiet (fail); try go_wp2)
                go_ret
                exact ⟨by first | rfl | (simp [eN, eS] <;> rfl) | (simp only [← hji12]; first | rfl | (simp [eN, eS] <;> rfl)) | (simp [*, eN, eS] <;> rfl) | (simp [eN, eS]; generalize ByteArray.toList _ = l_; cases l_ <;> rfl), by repeat (first | (with_reducible first | exact HI0.out | apply IsS84.alloc | apply IsS84.drewN | apply IsS84.drew | apply IsS84.set_1 | apply IsS84.set_2) | exact HI0.out), by repeat (first | (with_reducible first | exact HB.out | apply vA | apply vN | apply vD | refine vS ?_ (IsS84.ge HI0.out)) | exact HB.out), by repeat (first | (with_reducible first | exact HK.out | apply KeepBut.set_ | apply keep_drewN | apply keep_drew | apply keep_alloc) | exact HK.out)⟩
              · rw [if_neg c14] at H
                exact absurd H (by simp)
            · rw [if_neg c13] at H
              exact absurd H (by simp)
        · rw [if_neg c6] at H
          exact absurd H (by simp)
      · rw [if_neg c5] at H
        exact absurd H (by simp)
  · rw [if_neg c2] at H
    have c2b0 : (s0_2 == 0) = false := beq_eq_false_iff_ne.mpr c2
    have c2b1 : (s0_2 != 0) = true := bne_iff_ne.mpr c2
    simp only [Option.some.injEq, Prod.mk.injEq] at H
    obtain ⟨rfl, rfl, rfl⟩ := H
    obtain ⟨ASz16_0, cSz16_0, HGz16, hgz16, HSz16_0⟩ := HI0.out
    have hcz16_0 := cellS84_0 HGz16
    have hcz16_1 := cellS84_1 HGz16
    have hcz16_2 := cellS84_2 HGz16
    have hfz16_1 := bF HGz16 1
    have hfz16_2 := bF HGz16 2
    clear HGz16 hgz16
    go_enter Try.func62, Try.ntmps62
    go_wp2
    repeat (go_quiet (fail); try go_wp2)
    go_ret
    exact ⟨by first | rfl | (simp [*, eN, eS] <;> rfl) | (simp [eN, eS]; generalize ByteArray.toList _ = l_; cases l_ <;> rfl), by repeat (first | (with_reducible first | exact HI0.out | apply IsS84.alloc | apply IsS84.drewN | apply IsS84.drew | apply IsS84.set_1 | apply IsS84.set_2) | exact HI0.out), by repeat (first | (with_reducible first | exact HB.out | apply vA | apply vN | apply vD | refine vS ?_ (IsS84.ge HI0.out)) | exact HB.out), by repeat (first | (with_reducible first | exact HK.out | apply KeepBut.set_ | apply keep_drewN | apply keep_drew | apply keep_alloc) | exact HK.out)⟩
/-! ### record_reader_text: function 63 -/
def record_reader_text.j0 : Nat → Int → Bool → List Int → Int → Int → Option (ByteArray × Int × Int)
  | 0, _, _, _, _, _ => none
  | k + 1, x5, x28, x1000, x1001, x1002 => if x28 = true then (some ((⟨#[]⟩ : ByteArray), x1001, 4)) else (if x1002 = 0 then (if 0 ≤ (wrap64 ((wrap64 (x1001 + x5)) - x5)) then (if (wrap64 ((wrap64 (x1001 + x5)) - x5)) ≤ (wrap64 (x1001 + x5)) then (if (wrap64 (x1001 + x5)) ≤ (x1000.length : Int) then (some (strOfNums ((x1000.take ((wrap64 (x1001 + x5)) : Int).toNat).drop ((wrap64 ((wrap64 (x1001 + x5)) - x5)) : Int).toNat), wrap64 (x1001 + x5), x1002)) else (none)) else (none)) else (none)) else (some ((⟨#[]⟩ : ByteArray), x1001, x1002)))
def record_reader_text.f (k : Nat) (s0_0 : List Int) (s0_1 : Int) (s0_2 : Int) (a1 : Int) : Option (ByteArray × Int × Int) := (record_reader_number.f k s0_0 s0_1 s0_2 a1).bind fun bt365 => (if bt365.2.2 = 0 then (record_reader_text.j0 k (wrap64 (bt365.1)) (decide ((wrap64 (bt365.1)) > (wrap64 ((s0_0.length : Int) - bt365.2.1)))) s0_0 bt365.2.1 bt365.2.2) else (record_reader_text.j0 k (wrap64 (bt365.1)) false s0_0 bt365.2.1 bt365.2.2))
theorem record_reader_text.mono_l : ∀ k, (∀ y0 y1 y2 y3 y4, LeO (record_reader_text.j0 k y0 y1 y2 y3 y4) (record_reader_text.j0 (k + 1) y0 y1 y2 y3 y4))
  | 0 => fun _ _ _ _ _ r h => by simp [record_reader_text.j0] at h
  | k + 1 => by
    have ih0 := record_reader_text.mono_l k
    · intro y0 y1 y2 y3 y4
      unfold record_reader_text.j0
      repeat' first
      | (with_reducible exact LeO.refl _)
      | (with_reducible exact LeO.none _)
      | (with_reducible refine LeO.ite ?_ ?_)
      | (with_reducible refine LeO.bind ?_ (fun _ => ?_))
      | exact ih0 _ _ _ _ _
      | exact record_reader_number.mono _ _ _ _ _
      | exact LeO.none _
      | refine LeO.ite ?_ ?_
      | refine LeO.bind ?_ (fun _ => ?_)
theorem record_reader_text.mono : ∀ a0 a1 a2 a3 k, LeO (record_reader_text.f k a0 a1 a2 a3) (record_reader_text.f (k + 1) a0 a1 a2 a3) := by
  intro a0 a1 a2 a3 k
  have ih0 := record_reader_text.mono_l k
  unfold record_reader_text.f
  repeat' first
      | (with_reducible exact LeO.refl _)
      | (with_reducible exact LeO.none _)
      | (with_reducible refine LeO.ite ?_ ?_)
      | (with_reducible refine LeO.bind ?_ (fun _ => ?_))
      | exact ih0 _ _ _ _ _
      | exact record_reader_number.mono _ _ _ _ _
      | exact LeO.none _
      | refine LeO.ite ?_ ?_
      | refine LeO.bind ?_ (fun _ => ?_)
set_option maxHeartbeats 8000000 in
set_option maxRecDepth 100000 in
theorem record_reader_text.calls (k : Nat) (g : Nat) (s0_0 : List Int) (s0_1 : Int) (s0_2 : Int) (a1 : Int) (r1 : ByteArray) (r2 : Int) (r3 : Int) (w0 w : World) (hI : IsS84 w0 w g s0_0 s0_1 s0_2) (hB : Below w0.heap.size w0 w) (h : record_reader_text.f k s0_0 s0_1 s0_2 a1 = some (r1, r2, r3)) :
    Calls Try.prog 63 #[.pointer (some ⟨g, 0, none⟩), .int .u64 a1] w fun e w' => e = .returned (.string r1) ∧ IsS84 w0 w' g s0_0 r2 r3 ∧ Below w0.heap.size w0 w' ∧ KeepBut w w' g none := by
  have HI0 := Aside0.mk hI
  have HK := Aside0.mk (KeepBut.refl w g none)
  have HL := Aside0.mk hB.size
  clear hI
  have HW0 := Aside0.mk hB.size
  have HB := Aside0.mk hB
  have HBE := Aside0.mk hB
  clear hB
  have H : ((record_reader_number.f k s0_0 s0_1 s0_2 a1).bind fun bt365 => (if bt365.2.2 = 0 then (record_reader_text.j0 k (wrap64 (bt365.1)) (decide ((wrap64 (bt365.1)) > (wrap64 ((s0_0.length : Int) - bt365.2.1)))) s0_0 bt365.2.1 bt365.2.2) else (record_reader_text.j0 k (wrap64 (bt365.1)) false s0_0 bt365.2.1 bt365.2.2))) = some (r1, r2, r3) := h
  clear h
  replace H := Option.bind_eq_some_iff.mp H
  obtain ⟨⟨t365, t366, t367⟩, A30, H⟩ := H
  replace H : (if t367 = 0 then (record_reader_text.j0 k (wrap64 (t365)) (decide ((wrap64 (t365)) > (wrap64 ((s0_0.length : Int) - t366)))) s0_0 t366 t367) else (record_reader_text.j0 k (wrap64 (t365)) false s0_0 t366 t367)) = some (r1, r2, r3) := H
  have A3 := Aside0.mk A30
  clear A30
  have HC4 := Aside0.mk H
  clear H
  go_enter Try.func63, Try.ntmps63
  go_upto_region 2 with (first | (go_at_call 60; (with_reducible refine (record_reader_number.calls k g s0_0 s0_1 s0_2 a1 t365 t366 t367 w0 _ ?side1 ?side2 A3.out).mono ?_); (case side1 => repeat (first | (with_reducible first | exact HI0.out | apply IsS84.alloc | apply IsS84.drewN | apply IsS84.drew | apply IsS84.set_1 | apply IsS84.set_2) | exact HI0.out)); (case side2 => repeat (first | (with_reducible first | exact HB.out | apply vA | apply vN | apply vD | refine vS ?_ (IsS84.ge HI0.out)) | exact HB.out)); rintro e w5 ⟨rfl, hi, hb, hk⟩; have n0_ := Aside0.mk (KeepBut.trans (by repeat (first | (with_reducible first | exact HK.out | apply KeepBut.set_ | apply keep_drewN | apply keep_drew | apply keep_alloc) | exact HK.out)) hk (.inl rfl)); have n1_ := Aside0.mk (hb); have n2_ := Aside0.mk (hi); clear HK; clear HB; clear HI0; have HK := n0_; have HB := n1_; have HI0 := n2_; clear n0_ n1_ n2_; (try clear hb); (try clear hb2); (try clear hk); (try clear hi)))
  repeat (go_quiet (first | (go_at_call 60; (with_reducible refine (record_reader_number.calls k g s0_0 s0_1 s0_2 a1 t365 t366 t367 w0 _ ?side1 ?side2 A3.out).mono ?_); (case side1 => repeat (first | (with_reducible first | exact HI0.out | apply IsS84.alloc | apply IsS84.drewN | apply IsS84.drew | apply IsS84.set_1 | apply IsS84.set_2) | exact HI0.out)); (case side2 => repeat (first | (with_reducible first | exact HB.out | apply vA | apply vN | apply vD | refine vS ?_ (IsS84.ge HI0.out)) | exact HB.out)); rintro e w5 ⟨rfl, hi, hb, hk⟩; have n0_ := Aside0.mk (KeepBut.trans (by repeat (first | (with_reducible first | exact HK.out | apply KeepBut.set_ | apply keep_drewN | apply keep_drew | apply keep_alloc) | exact HK.out)) hk (.inl rfl)); have n1_ := Aside0.mk (hb); have n2_ := Aside0.mk (hi); clear HK; clear HB; clear HI0; have HK := n0_; have HB := n1_; have HI0 := n2_; clear n0_ n1_ n2_; (try clear hb); (try clear hb2); (try clear hk); (try clear hi))); go_upto_region 2 with (first | (go_at_call 60; (with_reducible refine (record_reader_number.calls k g s0_0 s0_1 s0_2 a1 t365 t366 t367 w0 _ ?side1 ?side2 A3.out).mono ?_); (case side1 => repeat (first | (with_reducible first | exact HI0.out | apply IsS84.alloc | apply IsS84.drewN | apply IsS84.drew | apply IsS84.set_1 | apply IsS84.set_2) | exact HI0.out)); (case side2 => repeat (first | (with_reducible first | exact HB.out | apply vA | apply vN | apply vD | refine vS ?_ (IsS84.ge HI0.out)) | exact HB.out)); rintro e w5 ⟨rfl, hi, hb, hk⟩; have n0_ := Aside0.mk (KeepBut.trans (by repeat (first | (with_reducible first | exact HK.out | apply KeepBut.set_ | apply keep_drewN | apply keep_drew | apply keep_alloc) | exact HK.out)) hk (.inl rfl)); have n1_ := Aside0.mk (hb); have n2_ := Aside0.mk (hi); clear HK; clear HB; clear HI0; have HK := n0_; have HB := n1_; have HI0 := n2_; clear n0_ n1_ n2_; (try clear hb); (try clear hb2); (try clear hk); (try clear hi))))
  (try simp only [Act.put, List.setIfInBounds_toArray, List.set_cons_zero, List.set_cons_succ])
  go_cut [28] (fun v28 wc => ∃ (kq : Nat) (x28_3 : Bool), v28 = .bool x28_3 ∧ Aside0 (record_reader_text.j0 kq (wrap64 (t365)) x28_3 s0_0 t366 t367 = some (r1, r2, r3)) ∧ Aside0 (kq ≤ k) ∧ Aside0 (IsS84 w0 wc g s0_0 t366 t367) ∧ Aside0 (KeepBut w wc g none) ∧ Aside0 (Below w0.heap.size w0 wc))
  case first =>
    have H := HC4.out
    clear HC4
    by_cases c6 : t367 = 0
    · rw [if_pos c6] at H
      have c6b0 : (t367 == 0) = true := beq_iff_eq.mpr c6
      have c6b1 : (t367 != 0) = false := bne_eq_false_iff_eq.mpr c6
      clear c6
      (first | rw [c6b0] | (simp only [i64_w, i32_w]; rw [c6b0]) | skip)
      have H' := Aside0.mk H
      clear H
      obtain ⟨ASz7_0, cSz7_0, HGz7, hgz7, HSz7_0⟩ := HI0.out
      have hcz7_0 := cellS84_0 HGz7
      have hcz7_1 := cellS84_1 HGz7
      have hcz7_2 := cellS84_2 HGz7
      have hfz7_1 := bF HGz7 1
      have hfz7_2 := bF HGz7 2
      clear HGz7 hgz7
      go_wp2
      repeat (go_quiet (fail); try go_wp2)
      go_meet
      case rel => exact ⟨_, (decide ((wrap64 (t365)) > (wrap64 ((s0_0.length : Int) - t366)))), (by first | rfl | (simp; done) | (simp [*]; done)), H', ⟨by first | omega | exact Nat.le_refl _⟩, ⟨by repeat (first | (with_reducible first | exact HI0.out | apply IsS84.alloc | apply IsS84.drewN | apply IsS84.drew | apply IsS84.set_1 | apply IsS84.set_2) | exact HI0.out)⟩, ⟨by repeat (first | (with_reducible first | exact HK.out | apply KeepBut.set_ | apply keep_drewN | apply keep_drew | apply keep_alloc) | exact HK.out)⟩, ⟨by repeat (first | (with_reducible first | exact HB.out | apply vA | apply vN | apply vD | refine vS ?_ (IsS84.ge HI0.out)) | exact HB.out)⟩⟩
    · rw [if_neg c6] at H
      have c6b0 : (t367 == 0) = false := beq_eq_false_iff_ne.mpr c6
      have c6b1 : (t367 != 0) = true := bne_iff_ne.mpr c6
      (first | rw [c6b0] | (simp only [i64_w, i32_w]; rw [c6b0]) | skip)
      have H' := Aside0.mk H
      clear H
      obtain ⟨ASz8_0, cSz8_0, HGz8, hgz8, HSz8_0⟩ := HI0.out
      have hcz8_0 := cellS84_0 HGz8
      have hcz8_1 := cellS84_1 HGz8
      have hcz8_2 := cellS84_2 HGz8
      have hfz8_1 := bF HGz8 1
      have hfz8_2 := bF HGz8 2
      clear HGz8 hgz8
      go_wp2
      repeat (go_quiet (fail); try go_wp2)
      go_meet
      case rel => exact ⟨_, (false), (by first | rfl | (simp; done) | (simp [*]; done)), H', ⟨by first | omega | exact Nat.le_refl _⟩, ⟨by repeat (first | (with_reducible first | exact HI0.out | apply IsS84.alloc | apply IsS84.drewN | apply IsS84.drew | apply IsS84.set_1 | apply IsS84.set_2) | exact HI0.out)⟩, ⟨by repeat (first | (with_reducible first | exact HK.out | apply KeepBut.set_ | apply keep_drewN | apply keep_drew | apply keep_alloc) | exact HK.out)⟩, ⟨by repeat (first | (with_reducible first | exact HB.out | apply vA | apply vN | apply vD | refine vS ?_ (IsS84.ge HI0.out)) | exact HB.out)⟩⟩
  case rest =>
    clear HC4
    try clear p2
    try clear c6
    try clear c6b0
    try clear c6b1
    try clear p6
    try clear hcz7_0
    try clear hcz7_1
    try clear hcz7_2
    try clear hcz8_0
    try clear hcz8_1
    try clear hcz8_2
    try clear hfz7_1
    try clear hfz7_2
    try clear hfz8_1
    try clear hfz8_2
    obtain ⟨kq, x28_3, rfl, HA, HJ3, HI0, HK, HB⟩ := hcut
    cases kq with
    | zero => exact absurd HA.out (by simp [record_reader_text.j0])
    | succ kj3 =>
      have H := HA.out
      clear HA
      simp only [record_reader_text.j0] at H
      by_cases c9 : x28_3 = true
      · subst c9
        have H1 : (some ((⟨#[]⟩ : ByteArray), t366, 4)) = some (r1, r2, r3) := by rw [if_pos rfl] at H; exact H
        clear H
        have H := H1
        clear H1
        simp only [Option.some.injEq, Prod.mk.injEq] at H
        obtain ⟨rfl, rfl, rfl⟩ := H
        obtain ⟨ASz10_0, cSz10_0, HGz10, hgz10, HSz10_0⟩ := HI0.out
        have hcz10_0 := cellS84_0 HGz10
        have hcz10_1 := cellS84_1 HGz10
        have hcz10_2 := cellS84_2 HGz10
        have hfz10_1 := bF HGz10 1
        have hfz10_2 := bF HGz10 2
        clear HGz10 hgz10
        go_wp2
        repeat (go_quiet (fail); try go_wp2)
        go_ret
        exact ⟨by first | rfl | (simp [*, eN, eS] <;> rfl) | (simp [eN, eS]; generalize ByteArray.toList _ = l_; cases l_ <;> rfl), by repeat (first | (with_reducible first | exact HI0.out | apply IsS84.alloc | apply IsS84.drewN | apply IsS84.drew | apply IsS84.set_1 | apply IsS84.set_2) | exact HI0.out), by repeat (first | (with_reducible first | exact HB.out | apply vA | apply vN | apply vD | refine vS ?_ (IsS84.ge HI0.out)) | exact HB.out), by repeat (first | (with_reducible first | exact HK.out | apply KeepBut.set_ | apply keep_drewN | apply keep_drew | apply keep_alloc) | exact HK.out)⟩
      · replace c9 := Bool.eq_false_iff.mpr c9
        subst c9
        have H1 : (if t367 = 0 then (if 0 ≤ (wrap64 ((wrap64 (t366 + (wrap64 (t365)))) - (wrap64 (t365)))) then (if (wrap64 ((wrap64 (t366 + (wrap64 (t365)))) - (wrap64 (t365)))) ≤ (wrap64 (t366 + (wrap64 (t365)))) then (if (wrap64 (t366 + (wrap64 (t365)))) ≤ (s0_0.length : Int) then (some (strOfNums ((s0_0.take ((wrap64 (t366 + (wrap64 (t365)))) : Int).toNat).drop ((wrap64 ((wrap64 (t366 + (wrap64 (t365)))) - (wrap64 (t365)))) : Int).toNat), wrap64 (t366 + (wrap64 (t365))), t367)) else (none)) else (none)) else (none)) else (some ((⟨#[]⟩ : ByteArray), t366, t367))) = some (r1, r2, r3) := by rw [if_neg (show ¬ (false = true) by decide)] at H; exact H
        clear H
        have H := H1
        clear H1
        by_cases c11 : t367 = 0
        · rw [if_pos c11] at H
          have c11b0 : (t367 == 0) = true := beq_iff_eq.mpr c11
          have c11b1 : (t367 != 0) = false := bne_eq_false_iff_eq.mpr c11
          clear c11
          obtain ⟨ji12, hji12⟩ : ∃ j_ : Int, (wrap64 ((wrap64 (t366 + (wrap64 (t365)))) - (wrap64 (t365)))) = j_ := ⟨_, rfl⟩
          replace H : (if 0 ≤ (ji12) then (if (ji12) ≤ (wrap64 (t366 + (wrap64 (t365)))) then (if (wrap64 (t366 + (wrap64 (t365)))) ≤ (s0_0.length : Int) then (some (strOfNums ((s0_0.take ((wrap64 (t366 + (wrap64 (t365)))) : Int).toNat).drop ((ji12) : Int).toNat), wrap64 (t366 + (wrap64 (t365))), t367)) else (none)) else (none)) else (none)) = some (r1, r2, r3) := by first | (rw [hji12] at H; exact H) | (simp only [hji12] at H ⊢; exact H)
          have hji12w : (IntKind.i64.wrap ((wrap64 (t366 + (wrap64 (t365)))) - (wrap64 (t365)))) = ji12 := (i64_w _).trans hji12
          by_cases c13 : 0 ≤ (ji12)
          · rw [if_pos c13] at H
            have c13b0 := eq_true c13
            have c13b1 : decide (0 ≤ (ji12)) = true := decide_eq_true c13
            clear c13
            by_cases c14 : (ji12) ≤ (wrap64 (t366 + (wrap64 (t365))))
            · rw [if_pos c14] at H
              have c14b0 := eq_true c14
              have c14b1 : decide ((ji12) ≤ (wrap64 (t366 + (wrap64 (t365))))) = true := decide_eq_true c14
              by_cases c15 : (wrap64 (t366 + (wrap64 (t365)))) ≤ (s0_0.length : Int)
              · rw [if_pos c15] at H
                have c15b0 := eq_true c15
                have c15b1 : decide ((wrap64 (t366 + (wrap64 (t365)))) ≤ (s0_0.length : Int)) = true := decide_eq_true c15
                simp only [Option.some.injEq, Prod.mk.injEq] at H
                obtain ⟨rfl, rfl, rfl⟩ := H
                obtain ⟨ASz16_0, cSz16_0, HGz16, hgz16, HSz16_0⟩ := HI0.out
                have hcz16_0 := cellS84_0 HGz16
                have hcz16_1 := cellS84_1 HGz16
                have hcz16_2 := cellS84_2 HGz16
                have hfz16_1 := bF HGz16 1
                have hfz16_2 := bF HGz16 2
                clear HGz16 hgz16
                obtain ⟨i017, hi017, _, hsz17, _⟩ := info_parts info5
                obtain ⟨A17, hcut17, hA17, hC17⟩ := print_mid_of (P := Try.prog) (Value.int .u8) 0 37 5 .i64 .i64 Try.underlying37 hi017 hsz17 ASz16_0 cSz16_0 s0_0 (ji12) (wrap64 (t366 + (wrap64 (t365)))) (of_decide_eq_true (by first | (with_reducible assumption) | assumption)) (by first | omega | exact of_decide_eq_true (by first | (with_reducible assumption) | assumption)) (of_decide_eq_true (by first | (with_reducible assumption) | assumption)) HSz16_0.1
                have HR368 := Aside0.mk (Kd.C_of_reads (h1 := fun _ => rfl) (hA17 _ (Kd.reads_of_C (Kd.C_below HSz16_0.2 HBE.out))))
                have HC368 := Aside0.mk hC17
                have hf368 : ∀ ad : Addr, A17 = some ad → 0 < ((s0_0.take ((wrap64 (t366 + (wrap64 (t365)))) : Int).toNat).drop ((ji12) : Int).toNat).length → ad.block ≠ g := Kd.far_C 0 (Kd.C_of_reads (h1 := fun _ => rfl) (hA17 _ (Kd.reads_of_C HSz16_0.2))) (IsS84.ge HI0.out)
                clear hA17 hC17 hi017 hsz17
                have hcv18 := Kd.C_string (P := Try.prog) (A := A17) (c := (cSz16_0 - (ji12).toNat)) Try.underlying37 Try.underlying5 Try.underlying9 (show Kd.C (Kd.int .u8) (wc.setCell ⟨g, 1, none⟩ (.int .i64 (wrap64 (t366 + (wrap64 (t365)))))) A17 ((s0_0.take ((wrap64 (t366 + (wrap64 (t365)))) : Int).toNat).drop ((ji12) : Int).toNat).length ((s0_0.take ((wrap64 (t366 + (wrap64 (t365)))) : Int).toNat).drop ((ji12) : Int).toNat) from (Kd.C_keep 0 HR368.out (by repeat (first | (with_reducible first | exact HK.out | apply KeepBut.set_ | apply keep_drewN | apply keep_drew | apply keep_alloc) | exact HK.out)) hf368))
                have hcn18 := fun (n_ : Nat) => Kd.C_string (P := Try.prog) (A := A17) (c := (cSz16_0 - (ji12).toNat)) Try.underlying37 Try.underlying5 Try.underlying9 (Kd.C_drewN (show Kd.C (Kd.int .u8) (wc.setCell ⟨g, 1, none⟩ (.int .i64 (wrap64 (t366 + (wrap64 (t365)))))) A17 ((s0_0.take ((wrap64 (t366 + (wrap64 (t365)))) : Int).toNat).drop ((ji12) : Int).toNat).length ((s0_0.take ((wrap64 (t366 + (wrap64 (t365)))) : Int).toNat).drop ((ji12) : Int).toNat) from (Kd.C_keep 0 HR368.out (by repeat (first | (with_reducible first | exact HK.out | apply KeepBut.set_ | apply keep_drewN | apply keep_drew | apply keep_alloc) | exact HK.out)) hf368)) n_)
                (try simp only [show ((s0_0.take ((wrap64 (t366 + (wrap64 (t365)))) : Int).toNat).drop ((ji12) : Int).toNat).length = ((wrap64 (t366 + (wrap64 (t365)))).toNat - (ji12).toNat) from (by rw [List.length_drop, List.length_take]; have h_ : ((wrap64 (t366 + (wrap64 (t365)))) : Int) ≤ (s0_0.length : Int) := of_decide_eq_true (by first | (with_reducible assumption) | assumption); omega)] at hcv18)
                (try simp only [show ((s0_0.take ((wrap64 (t366 + (wrap64 (t365)))) : Int).toNat).drop ((ji12) : Int).toNat).length = ((wrap64 (t366 + (wrap64 (t365)))).toNat - (ji12).toNat) from (by rw [List.length_drop, List.length_take]; have h_ : ((wrap64 (t366 + (wrap64 (t365)))) : Int) ≤ (s0_0.length : Int) := of_decide_eq_true (by first | (with_reducible assumption) | assumption); omega)] at hcn18)
                go_wp2
                repeat (go_quiet (fail); try go_wp2)
                go_ret
                exact ⟨by first | rfl | (simp [eN, eS] <;> rfl) | (simp only [← hji12]; first | rfl | (simp [eN, eS] <;> rfl)) | (simp [*, eN, eS] <;> rfl) | (simp [eN, eS]; generalize ByteArray.toList _ = l_; cases l_ <;> rfl), by repeat (first | (with_reducible first | exact HI0.out | apply IsS84.alloc | apply IsS84.drewN | apply IsS84.drew | apply IsS84.set_1 | apply IsS84.set_2) | exact HI0.out), by repeat (first | (with_reducible first | exact HB.out | apply vA | apply vN | apply vD | refine vS ?_ (IsS84.ge HI0.out)) | exact HB.out), by repeat (first | (with_reducible first | exact HK.out | apply KeepBut.set_ | apply keep_drewN | apply keep_drew | apply keep_alloc) | exact HK.out)⟩
              · rw [if_neg c15] at H
                exact absurd H (by simp)
            · rw [if_neg c14] at H
              exact absurd H (by simp)
          · rw [if_neg c13] at H
            exact absurd H (by simp)
        · rw [if_neg c11] at H
          have c11b0 : (t367 == 0) = false := beq_eq_false_iff_ne.mpr c11
          have c11b1 : (t367 != 0) = true := bne_iff_ne.mpr c11
          simp only [Option.some.injEq, Prod.mk.injEq] at H
          obtain ⟨rfl, rfl, rfl⟩ := H
          obtain ⟨ASz19_0, cSz19_0, HGz19, hgz19, HSz19_0⟩ := HI0.out
          have hcz19_0 := cellS84_0 HGz19
          have hcz19_1 := cellS84_1 HGz19
          have hcz19_2 := cellS84_2 HGz19
          have hfz19_1 := bF HGz19 1
          have hfz19_2 := bF HGz19 2
          clear HGz19 hgz19
          go_wp2
          repeat (go_quiet (fail); try go_wp2)
          go_ret
          exact ⟨by first | rfl | (simp [*, eN, eS] <;> rfl) | (simp [eN, eS]; generalize ByteArray.toList _ = l_; cases l_ <;> rfl), by repeat (first | (with_reducible first | exact HI0.out | apply IsS84.alloc | apply IsS84.drewN | apply IsS84.drew | apply IsS84.set_1 | apply IsS84.set_2) | exact HI0.out), by repeat (first | (with_reducible first | exact HB.out | apply vA | apply vN | apply vD | refine vS ?_ (IsS84.ge HI0.out)) | exact HB.out), by repeat (first | (with_reducible first | exact HK.out | apply KeepBut.set_ | apply keep_drewN | apply keep_drew | apply keep_alloc) | exact HK.out)⟩

end Go.Proofs.Ytphnolgneojdhaa.V

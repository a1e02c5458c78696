-- printed by a program of this session (a changed copy of the kit's printer)
import Derived.Test.YtphnolgneojdhaaSx0
namespace Go.Proofs.Ytphnolgneojdhaa.S
open Go.RowKit Go.Proofs.YtphnolgneojdhaaW.PrintWords Go.Proofs.YtphnolgneojdhaaW.PrintLast Go.Proofs.YtphnolgneojdhaaW.PrintMore
attribute [local go_sem] max2_int min2_int max_two min_two max_three min_three max_four min_four   -- for this text's walks alone
set_option linter.unusedVariables false
set_option linter.unusedSimpArgs false

/-! ### segment_From: function 26 -/
def segment_From.l0 : Nat → Int → Int → List (S34) → List (S34) → Int → Int → Option ((List (S34)))
  | 0, _, _, _, _, _, _ => none
  | k + 1, x1, x2, x7, x10, x11, x12 => if x12 < x11 then (if 0 ≤ x12 then (if x12 < (x10.length : Int) then (if ((rd_T34 x10 x12).f0) ≥ x1 then (if (x7.length : Int) < x2 then (if x7.length < 2513169434916 then (segment_From.l0 k x1 x2 (x7 ++ [(⟨(rd_T34 x10 x12).f0, (rd_T34 x10 x12).f1, (rd_T34 x10 x12).f2, (rd_T34 x10 x12).f3, (rd_T34 x10 x12).f4⟩ : S34)]) x10 x11 (wrap64 (x12 + 1))) else (none)) else (segment_From.l0 k x1 x2 x7 x10 x11 (wrap64 (x12 + 1)))) else (segment_From.l0 k x1 x2 x7 x10 x11 (wrap64 (x12 + 1)))) else (none)) else (none)) else (some x7)
def segment_From.f (k : Nat) (l0 : List (S34)) (a1 : Int) (a2 : Int) : Option ((List (S34))) := segment_From.l0 k a1 a2 ([] : List (S34)) l0 (l0.length : Int) 0
theorem segment_From.mono_l : ∀ k, (∀ y0 y1 y2 y3 y4 y5, LeO (segment_From.l0 k y0 y1 y2 y3 y4 y5) (segment_From.l0 (k + 1) y0 y1 y2 y3 y4 y5))
  | 0 => fun _ _ _ _ _ _ r h => by simp [segment_From.l0] at h
  | k + 1 => by
    have ih0 := segment_From.mono_l k
    · intro y0 y1 y2 y3 y4 y5
      unfold segment_From.l0
      repeat' first
      | (with_reducible exact ih0 _ _ _ _ _ _)
      | (with_reducible exact LeO.refl _)
      | (with_reducible exact LeO.none _)
      | (with_reducible refine LeO.ite ?_ ?_)
      | (with_reducible refine LeO.bind ?_ (fun _ => ?_))
      | exact ih0 _ _ _ _ _ _
      | exact LeO.none _
      | refine LeO.ite ?_ ?_
      | refine LeO.bind ?_ (fun _ => ?_)
theorem segment_From.mono : ∀ a0 a1 a2 k, LeO (segment_From.f k a0 a1 a2) (segment_From.f (k + 1) a0 a1 a2) := by
  intro a0 a1 a2 k
  have ih0 := segment_From.mono_l k
  unfold segment_From.f
  repeat' first
      | (with_reducible exact ih0 _ _ _ _ _ _)
      | (with_reducible exact LeO.refl _)
      | (with_reducible exact LeO.none _)
      | (with_reducible refine LeO.ite ?_ ?_)
      | (with_reducible refine LeO.bind ?_ (fun _ => ?_))
      | exact ih0 _ _ _ _ _ _
      | exact LeO.none _
      | refine LeO.ite ?_ ?_
      | refine LeO.bind ?_ (fun _ => ?_)
theorem slices_Clip.calls (A0 : Option Addr) (n c : Nat) (w : World) (hc : n ≤ c) :
    Calls Try.prog 45 #[.slice A0 n c] w fun e w' => e = .returned (.slice A0 n n) ∧ w' = w := by
  have h1 : (0 : Int) ≤ (n : Int) := by omega
  have h2 : (n : Int) ≤ (c : Int) := by omega
  have hu22 := Try.underlying22
  go_enter Try.func45, Try.ntmps45
  go_wp2
  go_ret
  exact ⟨rfl, rfl⟩
set_option maxHeartbeats 8000000 in
set_option maxRecDepth 100000 in
theorem segment_From.calls (k : Nat) (A0 : Option Addr) (c0 : Nat) (l0 : List (S34)) (a1 : Int) (a2 : Int) (r : List (S34)) (w : World) (hr0 : Kd.C k34 w A0 l0.length l0) (hc0 : l0.length ≤ c0) (h : segment_From.f k l0 a1 a2 = some r) :
    Calls Try.prog 26 #[.slice A0 l0.length c0, .int .i64 a1, .int .i64 a2] w fun e w' => ∃ v0_ : Value, e = .returned (v0_) ∧ Kd.V k34 34 w' w.heap.size (fun k_ => True ∧ w.heap.size ≤ k_ ∧ True) v0_ r ∧ Below w.heap.size w w' := by
  have hu34 := Try.underlying34
  have HR0 := Aside0.mk hr0
  have HC0 := Aside0.mk hc0
  clear hr0 hc0
  have HB := Aside0.mk (Below.refl w.heap.size w)
  have H : (segment_From.l0 k a1 a2 ([] : List (S34)) l0 (l0.length : Int) 0) = some r := h
  clear h
  have H' := Aside0.mk H
  clear H
  go_enter Try.func26, Try.ntmps26
  go_wp2
  go_loopg [7, 12] k (fun kq v7 v12 w' => ∃ (x7_1 : List (S34)) (x12_1 : Int), v12 = .int .i64 x12_1 ∧ Aside0 (segment_From.l0 kq a1 a2 x7_1 l0 (l0.length : Int) x12_1 = some r) ∧ Aside0 (kq ≤ k) ∧ Aside0 (Kd.R k34 34 w' w.heap.size (fun _ => True) v7 x7_1) ∧ Aside0 (Below w.heap.size w w'))
  case atStart => exact ⟨(([] : List (S34))), (0), (by first | rfl | (simp; done) | (simp [*]; done)), H', ⟨Nat.le_refl _⟩, ⟨by first | exact Kd.R_nil _ _ _ _ _ | exact Kd.N_nil _ _ _ _ _ | exact Kd.V_nil _ _ _ _ _ | exact Kd.Q_nil _ _ _ _ _ | exact Kd.S_nil _ _ _ _ _⟩, ⟨by repeat (first | (with_reducible first | exact HB.out | apply below_alloc | apply pw_below_drewN | apply below_drew1) | exact HB.out)⟩⟩
  case round =>
    clear H'
    try clear c2
    try clear p2
    obtain ⟨x7_1, x12_1, rfl, HA, HK1, HO_7, HB⟩ := hrel
    cases gk with
    | zero => exact absurd HA.out (by simp [segment_From.l0])
    | succ k1 =>
      have H := HA.out
      clear HA
      simp only [segment_From.l0] at H
      by_cases c4 : x12_1 < (l0.length : Int)
      · rw [if_pos c4] at H
        have c4b0 : decide (x12_1 < (l0.length : Int)) = true := decide_eq_true c4
        clear c4
        by_cases c5 : 0 ≤ x12_1
        · rw [if_pos c5] at H
          have c5b0 : decide (0 ≤ x12_1) = true := decide_eq_true c5
          clear c5
          by_cases c6 : x12_1 < (l0.length : Int)
          · rw [if_pos c6] at H
            have c6b0 : decide (x12_1 < (l0.length : Int)) = true := decide_eq_true c6
            clear c6
            by_cases c7 : ((rd_T34 l0 x12_1).f0) ≥ a1
            · rw [if_pos c7] at H
              have c7b0 : decide (a1 ≤ ((rd_T34 l0 x12_1).f0)) = true := decide_eq_true c7
              clear c7
              by_cases c8 : (x7_1.length : Int) < a2
              · rw [if_pos c8] at H
                have c8b0 : decide ((x7_1.length : Int) < a2) = true := decide_eq_true c8
                clear c8
                by_cases c9 : x7_1.length < 2513169434916
                · rw [if_pos c9] at H
                  have LMc9 := Aside0.mk c9
                  clear c9
                  obtain ⟨y553, hy553⟩ : ∃ y_ : List (S34), y_ = (x7_1 ++ [(⟨(rd_T34 l0 x12_1).f0, (rd_T34 l0 x12_1).f1, (rd_T34 l0 x12_1).f2, (rd_T34 l0 x12_1).f3, (rd_T34 l0 x12_1).f4⟩ : S34)]) := ⟨_, rfl⟩
                  replace H : (segment_From.l0 k1 a1 a2 y553 l0 (l0.length : Int) (wrap64 (x12_1 + 1))) = some r := by first | (rw [hy553]; with_reducible exact H) | (have H2_ := (Option.bind_some _ _).symm.trans H; rw [hy553]; with_reducible exact H2_) | (have H2_ := (Option.bind_some _ _).symm.trans H; with_reducible exact H2_) | with_reducible exact H | (rw [hy553]; exact H) | exact H
                  have Ny553 := Aside0.mk hy553
                  clear hy553
                  have H' := Aside0.mk H
                  clear H
                  have p551 : 0 ≤ (x12_1 : Int) := of_decide_eq_true (by first | (with_reducible assumption) | assumption)
                  have q551 : x12_1 < (l0.length : Int) := of_decide_eq_true (by first | (with_reducible assumption) | assumption)
                  obtain ⟨ad551, e551, hx551_0, hx551_1, hx551_2, hx551_3, hx551_4⟩ := at_T34 HR0.out x12_1 p551 q551
                  cases e551
                  replace hx551_0 := (HB.out.cell (World.block_lt_of_cell? w _ hx551_0)).trans hx551_0
                  replace hx551_1 := (HB.out.cell (World.block_lt_of_cell? w _ hx551_1)).trans hx551_1
                  replace hx551_2 := (HB.out.cell (World.block_lt_of_cell? w _ hx551_2)).trans hx551_2
                  replace hx551_3 := (HB.out.cell (World.block_lt_of_cell? w _ hx551_3)).trans hx551_3
                  replace hx551_4 := (HB.out.cell (World.block_lt_of_cell? w _ hx551_4)).trans hx551_4
                  replace p551 := eq_true p551
                  replace q551 := eq_true q551
                  go_wp2_with (first | ((with_reducible refine gate_dst (N := 9) rfl ?_); (try (refine gate_guard (by rfl) ?_; dsimp only)); refine box_event ?hg (N := 9) ?hd (cs := #[.int .i64 0, .int .i64 0, .string (⟨#[]⟩ : ByteArray), .string (⟨#[]⟩ : ByteArray), .bool false]) (t := 34) ?hr ?_; (case hd => rfl); (case hg => rfl); (case hr => first | (go_simp; done) | (go_simp; rfl)); intro gb552 hg w10 hbox hb; have n0_ := Aside0.mk (Kd.R_below (Kd.R_elderB (by (with_reducible repeat (first | apply Kd.R_alloc | apply Kd.R_drewN | apply Kd.R_drew)); exact HO_7.out) gb552 (Nat.le_of_eq hg.symm)) hb); have n1_ := Aside0.mk (below_step (by repeat (first | (with_reducible first | exact HB.out | apply below_alloc | apply pw_below_drewN | apply below_drew1) | exact HB.out)) hb); have n2_ := Aside0.mk (hbox); have n3_ := Aside0.mk ((by rw [hg]; exact (below_size (by repeat (first | (with_reducible first | exact HB.out | apply below_alloc | apply pw_below_drewN | apply below_drew1) | exact HB.out))) : w.heap.size ≤ gb552)); have n4_ := Aside0.mk ((by rw [hg]; exact (below_size (by repeat (first | (with_reducible first | exact HB.out | apply below_alloc | apply pw_below_drewN | apply below_drew1) | exact HB.out))) : w.heap.size ≤ gb552)); clear HO_7; clear HB; have HO_7 := n0_; have HB := n1_; have BK552 := n2_; have GW552 := n3_; have GE552 := n4_; clear n0_ n1_ n2_ n3_ n4_; clear hb hbox hg; have hcz11_0 : w10.cell? ⟨gb552, 0, none⟩ = some (.int .i64 0) := (blk_cell BK552.out 0).trans rfl; have hcz11_1 : w10.cell? ⟨gb552, 1, none⟩ = some (.int .i64 0) := (blk_cell BK552.out 1).trans rfl; have hcz11_2 : w10.cell? ⟨gb552, 2, none⟩ = some (.string (⟨#[]⟩ : ByteArray)) := (blk_cell BK552.out 2).trans rfl; have hcz11_3 : w10.cell? ⟨gb552, 3, none⟩ = some (.string (⟨#[]⟩ : ByteArray)) := (blk_cell BK552.out 3).trans rfl; have hcz11_4 : w10.cell? ⟨gb552, 4, none⟩ = some (.bool false) := (blk_cell BK552.out 4).trans rfl; have hfz11_0 := blk_frozen BK552.out 0; have hfz11_1 := blk_frozen BK552.out 1; have hfz11_2 := blk_frozen BK552.out 2; have hfz11_3 := blk_frozen BK552.out 3; have hfz11_4 := blk_frozen BK552.out 4; obtain ⟨Ao12, co12, eo12⟩ := Kd.R_slice HO_7.out; subst eo12) | ((with_reducible refine gate_builtin (b := .append) (xs := #[(.tmp 26), .tmp 28]) rfl ?_); (try (refine gate_guard (by rfl) ?_; dsimp only)); at_builtin; refine Kd.R_append k34 (w0 := w) w.heap.size rfl (.tmp 26) (.tmp 28) 22 34 (.agg #[(.int .i64 0), (.int .i64 0), (.string ⟨#[]⟩), (.string ⟨#[]⟩), (.bool false)]) 56 rfl Try.underlying22 info34 rfl (by decide) (by omega) (.slice Ao12 x7_1.length co12) x7_1 (⟨(rd_T34 l0 x12_1).f0, (rd_T34 l0 x12_1).f1, (rd_T34 l0 x12_1).f2, (rd_T34 l0 x12_1).f3, (rd_T34 l0 x12_1).f4⟩ : S34) [.int .i64 ((rd_T34 l0 x12_1).f0), .int .i64 ((rd_T34 l0 x12_1).f1), .string ((rd_T34 l0 x12_1).f2), .string ((rd_T34 l0 x12_1).f3), .bool ((rd_T34 l0 x12_1).f4)] (fun k_ => k_ ≠ gb552) (fun _ => False) rfl (by first | (go_simp; done) | (go_simp; rfl)) ?aP (fun _ hk => hk.elim) ?aF ?aO ?aB ?aS ?aL ?_; (case aP => exact k34_mkM _ _ _ (⟨(rd_T34 l0 x12_1).f0, (rd_T34 l0 x12_1).f1, (rd_T34 l0 x12_1).f2, (rd_T34 l0 x12_1).f3, (rd_T34 l0 x12_1).f4⟩ : S34)); (case aB => exact (by repeat (first | (with_reducible first | exact HB.out | apply below_alloc | apply pw_below_drewN | apply below_drew1 | refine below_set ?_ GE552.out) | exact HB.out))); (case aF => exact (fun k_ hk => Kd.freshB (g := gb552) (o := .cells #[.int .i64 ((rd_T34 l0 x12_1).f0), .int .i64 ((rd_T34 l0 x12_1).f1), .string ((rd_T34 l0 x12_1).f2), .string ((rd_T34 l0 x12_1).f3), .bool ((rd_T34 l0 x12_1).f4)] 34 (0, 0)) (by (with_reducible repeat (first | refine blk_drewN ?_ _ | refine blk_drew ?_ | refine blk_alloc ?_ _)); refine blk_put (cs := #[.int .i64 ((rd_T34 l0 x12_1).f0), .int .i64 ((rd_T34 l0 x12_1).f1), .string ((rd_T34 l0 x12_1).f2), .string ((rd_T34 l0 x12_1).f3), .bool false]) ?_ 4 _ rfl; (with_reducible repeat (first | refine blk_drewN ?_ _ | refine blk_drew ?_ | refine blk_alloc ?_ _)); refine blk_put (cs := #[.int .i64 ((rd_T34 l0 x12_1).f0), .int .i64 ((rd_T34 l0 x12_1).f1), .string ((rd_T34 l0 x12_1).f2), .string (⟨#[]⟩ : ByteArray), .bool false]) ?_ 3 _ rfl; (with_reducible repeat (first | refine blk_drewN ?_ _ | refine blk_drew ?_ | refine blk_alloc ?_ _)); refine blk_put (cs := #[.int .i64 ((rd_T34 l0 x12_1).f0), .int .i64 ((rd_T34 l0 x12_1).f1), .string (⟨#[]⟩ : ByteArray), .string (⟨#[]⟩ : ByteArray), .bool false]) ?_ 2 _ rfl; (with_reducible repeat (first | refine blk_drewN ?_ _ | refine blk_drew ?_ | refine blk_alloc ?_ _)); refine blk_put (cs := #[.int .i64 ((rd_T34 l0 x12_1).f0), .int .i64 0, .string (⟨#[]⟩ : ByteArray), .string (⟨#[]⟩ : ByteArray), .bool false]) ?_ 1 _ rfl; (with_reducible repeat (first | refine blk_drewN ?_ _ | refine blk_drew ?_ | refine blk_alloc ?_ _)); refine blk_put (cs := #[.int .i64 0, .int .i64 0, .string (⟨#[]⟩ : ByteArray), .string (⟨#[]⟩ : ByteArray), .bool false]) ?_ 0 _ rfl; (with_reducible repeat (first | refine blk_drewN ?_ _ | refine blk_drew ?_ | refine blk_alloc ?_ _)); exact BK552.out) k_ hk)); (case aO => exact (by (with_reducible repeat (first | apply Kd.R_alloc | apply Kd.R_drewN | apply Kd.R_drew)); exact Kd.R_mono (Kd.R_far (p := ⟨gb552, 4, none⟩) (Kd.R_far (p := ⟨gb552, 3, none⟩) (Kd.R_far (p := ⟨gb552, 2, none⟩) (Kd.R_far (p := ⟨gb552, 1, none⟩) (Kd.R_far (p := ⟨gb552, 0, none⟩) (Kd.R_mono HO_7.out (fun k_ hk => (⟨hk, hk.2⟩ : _ ∧ k_ ≠ gb552))) (fun _ hk => hk.2) (.int .i64 ((rd_T34 l0 x12_1).f0))) (fun _ hk => hk.2) (.int .i64 ((rd_T34 l0 x12_1).f1))) (fun _ hk => hk.2) (.string ((rd_T34 l0 x12_1).f2))) (fun _ hk => hk.2) (.string ((rd_T34 l0 x12_1).f3))) (fun _ hk => hk.2) (.bool ((rd_T34 l0 x12_1).f4))) (fun _ hk => hk.1.2))); (case aS => exact (below_size (by repeat (first | (with_reducible first | exact HB.out | apply below_alloc | apply pw_below_drewN | apply below_drew1 | refine below_set ?_ GE552.out) | exact HB.out)))); (case aL => have := LMc9.out; omega); intro v554 w13 ho hb hg hat; rw [← Ny553.out] at ho; have n0_ := Aside0.mk (blk_grown (g := gb552) (o := .cells #[.int .i64 ((rd_T34 l0 x12_1).f0), .int .i64 ((rd_T34 l0 x12_1).f1), .string ((rd_T34 l0 x12_1).f2), .string ((rd_T34 l0 x12_1).f3), .bool ((rd_T34 l0 x12_1).f4)] 34 (0, 0)) (by (with_reducible repeat (first | refine blk_drewN ?_ _ | refine blk_drew ?_ | refine blk_alloc ?_ _)); refine blk_put (cs := #[.int .i64 ((rd_T34 l0 x12_1).f0), .int .i64 ((rd_T34 l0 x12_1).f1), .string ((rd_T34 l0 x12_1).f2), .string ((rd_T34 l0 x12_1).f3), .bool false]) ?_ 4 _ rfl; (with_reducible repeat (first | refine blk_drewN ?_ _ | refine blk_drew ?_ | refine blk_alloc ?_ _)); refine blk_put (cs := #[.int .i64 ((rd_T34 l0 x12_1).f0), .int .i64 ((rd_T34 l0 x12_1).f1), .string ((rd_T34 l0 x12_1).f2), .string (⟨#[]⟩ : ByteArray), .bool false]) ?_ 3 _ rfl; (with_reducible repeat (first | refine blk_drewN ?_ _ | refine blk_drew ?_ | refine blk_alloc ?_ _)); refine blk_put (cs := #[.int .i64 ((rd_T34 l0 x12_1).f0), .int .i64 ((rd_T34 l0 x12_1).f1), .string (⟨#[]⟩ : ByteArray), .string (⟨#[]⟩ : ByteArray), .bool false]) ?_ 2 _ rfl; (with_reducible repeat (first | refine blk_drewN ?_ _ | refine blk_drew ?_ | refine blk_alloc ?_ _)); refine blk_put (cs := #[.int .i64 ((rd_T34 l0 x12_1).f0), .int .i64 0, .string (⟨#[]⟩ : ByteArray), .string (⟨#[]⟩ : ByteArray), .bool false]) ?_ 1 _ rfl; (with_reducible repeat (first | refine blk_drewN ?_ _ | refine blk_drew ?_ | refine blk_alloc ?_ _)); refine blk_put (cs := #[.int .i64 0, .int .i64 0, .string (⟨#[]⟩ : ByteArray), .string (⟨#[]⟩ : ByteArray), .bool false]) ?_ 0 _ rfl; (with_reducible repeat (first | refine blk_drewN ?_ _ | refine blk_drew ?_ | refine blk_alloc ?_ _)); exact BK552.out) hg (Kd.R_away HO_7.out (fun _ hk => hk.2))); have n1_ := Aside0.mk (hb); have n2_ := Aside0.mk (ho); clear BK552; clear HB; clear HO_7; have BK552 := n0_; have HB := n1_; have HO555 := n2_; clear n0_ n1_ n2_; clear ho hb hg hat))
                  go_roundg k1
                  case measure => have := HK1.out; omega
                  case rel => exact ⟨(y553), (wrap64 (x12_1 + 1)), (by first | rfl | (simp; done) | (simp [*]; done)), H', ⟨by have := HK1.out; omega⟩, ⟨by (with_reducible repeat (first | apply Kd.R_alloc | apply Kd.R_drewN | apply Kd.R_drew)); exact Kd.R_mono HO555.out (fun _ hk => trivial)⟩, ⟨by repeat (first | (with_reducible first | exact HB.out | apply below_alloc | apply pw_below_drewN | apply below_drew1 | refine below_set ?_ GE552.out) | exact HB.out)⟩⟩
                · rw [if_neg c9] at H
                  exact absurd H (by simp)
              · rw [if_neg c8] at H
                have c8b0 : decide ((x7_1.length : Int) < a2) = false := decide_eq_false c8
                clear c8
                have H' := Aside0.mk H
                clear H
                have p551 : 0 ≤ (x12_1 : Int) := of_decide_eq_true (by first | (with_reducible assumption) | assumption)
                have q551 : x12_1 < (l0.length : Int) := of_decide_eq_true (by first | (with_reducible assumption) | assumption)
                obtain ⟨ad551, e551, hx551_0, hx551_1, hx551_2, hx551_3, hx551_4⟩ := at_T34 HR0.out x12_1 p551 q551
                cases e551
                replace hx551_0 := (HB.out.cell (World.block_lt_of_cell? w _ hx551_0)).trans hx551_0
                replace hx551_1 := (HB.out.cell (World.block_lt_of_cell? w _ hx551_1)).trans hx551_1
                replace hx551_2 := (HB.out.cell (World.block_lt_of_cell? w _ hx551_2)).trans hx551_2
                replace hx551_3 := (HB.out.cell (World.block_lt_of_cell? w _ hx551_3)).trans hx551_3
                replace hx551_4 := (HB.out.cell (World.block_lt_of_cell? w _ hx551_4)).trans hx551_4
                replace p551 := eq_true p551
                replace q551 := eq_true q551
                go_wp2_with (first | ((with_reducible refine gate_dst (N := 9) rfl ?_); (try (refine gate_guard (by rfl) ?_; dsimp only)); refine box_event ?hg (N := 9) ?hd (cs := #[.int .i64 0, .int .i64 0, .string (⟨#[]⟩ : ByteArray), .string (⟨#[]⟩ : ByteArray), .bool false]) (t := 34) ?hr ?_; (case hd => rfl); (case hg => rfl); (case hr => first | (go_simp; done) | (go_simp; rfl)); intro gb552 hg w14 hbox hb; have n0_ := Aside0.mk (Kd.R_below (Kd.R_elderB (by (with_reducible repeat (first | apply Kd.R_alloc | apply Kd.R_drewN | apply Kd.R_drew)); exact HO_7.out) gb552 (Nat.le_of_eq hg.symm)) hb); have n1_ := Aside0.mk (below_step (by repeat (first | (with_reducible first | exact HB.out | apply below_alloc | apply pw_below_drewN | apply below_drew1) | exact HB.out)) hb); have n2_ := Aside0.mk (hbox); have n3_ := Aside0.mk ((by rw [hg]; exact (below_size (by repeat (first | (with_reducible first | exact HB.out | apply below_alloc | apply pw_below_drewN | apply below_drew1) | exact HB.out))) : w.heap.size ≤ gb552)); have n4_ := Aside0.mk ((by rw [hg]; exact (below_size (by repeat (first | (with_reducible first | exact HB.out | apply below_alloc | apply pw_below_drewN | apply below_drew1) | exact HB.out))) : w.heap.size ≤ gb552)); clear HO_7; clear HB; have HO_7 := n0_; have HB := n1_; have BK552 := n2_; have GW552 := n3_; have GE552 := n4_; clear n0_ n1_ n2_ n3_ n4_; clear hb hbox hg; have hcz15_0 : w14.cell? ⟨gb552, 0, none⟩ = some (.int .i64 0) := (blk_cell BK552.out 0).trans rfl; have hcz15_1 : w14.cell? ⟨gb552, 1, none⟩ = some (.int .i64 0) := (blk_cell BK552.out 1).trans rfl; have hcz15_2 : w14.cell? ⟨gb552, 2, none⟩ = some (.string (⟨#[]⟩ : ByteArray)) := (blk_cell BK552.out 2).trans rfl; have hcz15_3 : w14.cell? ⟨gb552, 3, none⟩ = some (.string (⟨#[]⟩ : ByteArray)) := (blk_cell BK552.out 3).trans rfl; have hcz15_4 : w14.cell? ⟨gb552, 4, none⟩ = some (.bool false) := (blk_cell BK552.out 4).trans rfl; have hfz15_0 := blk_frozen BK552.out 0; have hfz15_1 := blk_frozen BK552.out 1; have hfz15_2 := blk_frozen BK552.out 2; have hfz15_3 := blk_frozen BK552.out 3; have hfz15_4 := blk_frozen BK552.out 4; obtain ⟨Ao16, co16, eo16⟩ := Kd.R_slice HO_7.out; subst eo16))
                go_roundg k1
                case measure => have := HK1.out; omega
                case rel => exact ⟨(x7_1), (wrap64 (x12_1 + 1)), (by first | rfl | (simp; done) | (simp [*]; done)), H', ⟨by have := HK1.out; omega⟩, ⟨by (with_reducible repeat (first | apply Kd.R_alloc | apply Kd.R_drewN | apply Kd.R_drew)); exact Kd.R_mono (Kd.R_far (p := ⟨gb552, 4, none⟩) (Kd.R_far (p := ⟨gb552, 3, none⟩) (Kd.R_far (p := ⟨gb552, 2, none⟩) (Kd.R_far (p := ⟨gb552, 1, none⟩) (Kd.R_far (p := ⟨gb552, 0, none⟩) (Kd.R_mono HO_7.out (fun k_ hk => (⟨hk, hk.2⟩ : _ ∧ k_ ≠ gb552))) (fun _ hk => hk.2) (.int .i64 ((rd_T34 l0 x12_1).f0))) (fun _ hk => hk.2) (.int .i64 ((rd_T34 l0 x12_1).f1))) (fun _ hk => hk.2) (.string ((rd_T34 l0 x12_1).f2))) (fun _ hk => hk.2) (.string ((rd_T34 l0 x12_1).f3))) (fun _ hk => hk.2) (.bool ((rd_T34 l0 x12_1).f4))) (fun _ hk => trivial)⟩, ⟨by repeat (first | (with_reducible first | exact HB.out | apply below_alloc | apply pw_below_drewN | apply below_drew1 | refine below_set ?_ GE552.out) | exact HB.out)⟩⟩
            · rw [if_neg c7] at H
              have c7b0 : decide (a1 ≤ ((rd_T34 l0 x12_1).f0)) = false := decide_eq_false c7
              clear c7
              have H' := Aside0.mk H
              clear H
              have p551 : 0 ≤ (x12_1 : Int) := of_decide_eq_true (by first | (with_reducible assumption) | assumption)
              have q551 : x12_1 < (l0.length : Int) := of_decide_eq_true (by first | (with_reducible assumption) | assumption)
              obtain ⟨ad551, e551, hx551_0, hx551_1, hx551_2, hx551_3, hx551_4⟩ := at_T34 HR0.out x12_1 p551 q551
              cases e551
              replace hx551_0 := (HB.out.cell (World.block_lt_of_cell? w _ hx551_0)).trans hx551_0
              replace hx551_1 := (HB.out.cell (World.block_lt_of_cell? w _ hx551_1)).trans hx551_1
              replace hx551_2 := (HB.out.cell (World.block_lt_of_cell? w _ hx551_2)).trans hx551_2
              replace hx551_3 := (HB.out.cell (World.block_lt_of_cell? w _ hx551_3)).trans hx551_3
              replace hx551_4 := (HB.out.cell (World.block_lt_of_cell? w _ hx551_4)).trans hx551_4
              replace p551 := eq_true p551
              replace q551 := eq_true q551
              go_wp2_with (first | ((with_reducible refine gate_dst (N := 9) rfl ?_); (try (refine gate_guard (by rfl) ?_; dsimp only)); refine box_event ?hg (N := 9) ?hd (cs := #[.int .i64 0, .int .i64 0, .string (⟨#[]⟩ : ByteArray), .string (⟨#[]⟩ : ByteArray), .bool false]) (t := 34) ?hr ?_; (case hd => rfl); (case hg => rfl); (case hr => first | (go_simp; done) | (go_simp; rfl)); intro gb552 hg w17 hbox hb; have n0_ := Aside0.mk (Kd.R_below (Kd.R_elderB (by (with_reducible repeat (first | apply Kd.R_alloc | apply Kd.R_drewN | apply Kd.R_drew)); exact HO_7.out) gb552 (Nat.le_of_eq hg.symm)) hb); have n1_ := Aside0.mk (below_step (by repeat (first | (with_reducible first | exact HB.out | apply below_alloc | apply pw_below_drewN | apply below_drew1) | exact HB.out)) hb); have n2_ := Aside0.mk (hbox); have n3_ := Aside0.mk ((by rw [hg]; exact (below_size (by repeat (first | (with_reducible first | exact HB.out | apply below_alloc | apply pw_below_drewN | apply below_drew1) | exact HB.out))) : w.heap.size ≤ gb552)); have n4_ := Aside0.mk ((by rw [hg]; exact (below_size (by repeat (first | (with_reducible first | exact HB.out | apply below_alloc | apply pw_below_drewN | apply below_drew1) | exact HB.out))) : w.heap.size ≤ gb552)); clear HO_7; clear HB; have HO_7 := n0_; have HB := n1_; have BK552 := n2_; have GW552 := n3_; have GE552 := n4_; clear n0_ n1_ n2_ n3_ n4_; clear hb hbox hg; have hcz18_0 : w17.cell? ⟨gb552, 0, none⟩ = some (.int .i64 0) := (blk_cell BK552.out 0).trans rfl; have hcz18_1 : w17.cell? ⟨gb552, 1, none⟩ = some (.int .i64 0) := (blk_cell BK552.out 1).trans rfl; have hcz18_2 : w17.cell? ⟨gb552, 2, none⟩ = some (.string (⟨#[]⟩ : ByteArray)) := (blk_cell BK552.out 2).trans rfl; have hcz18_3 : w17.cell? ⟨gb552, 3, none⟩ = some (.string (⟨#[]⟩ : ByteArray)) := (blk_cell BK552.out 3).trans rfl; have hcz18_4 : w17.cell? ⟨gb552, 4, none⟩ = some (.bool false) := (blk_cell BK552.out 4).trans rfl; have hfz18_0 := blk_frozen BK552.out 0; have hfz18_1 := blk_frozen BK552.out 1; have hfz18_2 := blk_frozen BK552.out 2; have hfz18_3 := blk_frozen BK552.out 3; have hfz18_4 := blk_frozen BK552.out 4))
              go_roundg k1
              case measure => have := HK1.out; omega
              case rel => exact ⟨(x7_1), (wrap64 (x12_1 + 1)), (by first | rfl | (simp; done) | (simp [*]; done)), H', ⟨by have := HK1.out; omega⟩, ⟨by (with_reducible repeat (first | apply Kd.R_alloc | apply Kd.R_drewN | apply Kd.R_drew)); exact Kd.R_mono (Kd.R_far (p := ⟨gb552, 4, none⟩) (Kd.R_far (p := ⟨gb552, 3, none⟩) (Kd.R_far (p := ⟨gb552, 2, none⟩) (Kd.R_far (p := ⟨gb552, 1, none⟩) (Kd.R_far (p := ⟨gb552, 0, none⟩) (Kd.R_mono HO_7.out (fun k_ hk => (⟨hk, hk.2⟩ : _ ∧ k_ ≠ gb552))) (fun _ hk => hk.2) (.int .i64 ((rd_T34 l0 x12_1).f0))) (fun _ hk => hk.2) (.int .i64 ((rd_T34 l0 x12_1).f1))) (fun _ hk => hk.2) (.string ((rd_T34 l0 x12_1).f2))) (fun _ hk => hk.2) (.string ((rd_T34 l0 x12_1).f3))) (fun _ hk => hk.2) (.bool ((rd_T34 l0 x12_1).f4))) (fun _ hk => trivial)⟩, ⟨by repeat (first | (with_reducible first | exact HB.out | apply below_alloc | apply pw_below_drewN | apply below_drew1 | refine below_set ?_ GE552.out) | exact HB.out)⟩⟩
          · rw [if_neg c6] at H
            exact absurd H (by simp)
        · rw [if_neg c5] at H
          exact absurd H (by simp)
      · rw [if_neg c4] at H
        have c4b0 : decide (x12_1 < (l0.length : Int)) = false := decide_eq_false c4
        clear c4
        obtain rfl := Option.some.inj H
        obtain ⟨Ao9, co9, eo9⟩ := Kd.R_slice HO_7.out
        subst eo9
        have hlen9 := (Kd.R_reads' HO_7.out).2.1
        have hv9 := Kd.V_F (Kd.V_mono (ok' := fun k_ => True ∧ w.heap.size ≤ k_ ∧ True) (Kd.R_V (base' := w.heap.size) (Kd.R_bound HO_7.out)) (fun k_ hk_ => ⟨trivial, hk_.2.1, trivial⟩))
        have HV9 := Aside0.mk hv9
        clear hv9
        go_wp2_with (first | (go_at_call 45; (with_reducible refine (slices_Clip.calls _ _ _ _ hlen9).mono ?_); rintro e w9 ⟨rfl, rfl⟩))
        go_ret
        exact ⟨_, by first | rfl | (simp; done), ⟨_, _, rfl, Nat.le_refl _, HV9.out⟩, HB.out⟩

/-! ### cooperageref1_From: function 27 -/
mutual
def cooperageref1_From.l0 : Nat → List (S34) → Int → Int → List (S34) → Int → Option ((List (S34)))
  | 0, _, _, _, _, _ => none
  | k + 1, x0, x1, x2, x7, x8 => if x8 < (x0.length : Int) then (cooperageref1_From.j1 k x0 x1 x2 x7 x8 (decide ((x7.length : Int) < x2))) else (cooperageref1_From.j1 k x0 x1 x2 x7 x8 false)
def cooperageref1_From.j1 : Nat → List (S34) → Int → Int → List (S34) → Int → Bool → Option ((List (S34)))
  | 0, _, _, _, _, _, _ => none
  | k + 1, x0, x1, x2, x7, x8, x18 => if x18 = true then (if 0 ≤ x8 then (if x8 < (x0.length : Int) then (if ((rd_T34 x0 x8).f0) ≥ x1 then (if x7.length < 2513169434916 then (cooperageref1_From.l0 k x0 x1 x2 (x7 ++ [(⟨(rd_T34 x0 x8).f0, (rd_T34 x0 x8).f1, (rd_T34 x0 x8).f2, (rd_T34 x0 x8).f3, (rd_T34 x0 x8).f4⟩ : S34)]) (wrap64 (x8 + 1))) else (none)) else (cooperageref1_From.l0 k x0 x1 x2 x7 (wrap64 (x8 + 1)))) else (none)) else (none)) else (some x7)
end
def cooperageref1_From.f (k : Nat) (l0 : List (S34)) (a1 : Int) (a2 : Int) : Option ((List (S34))) := cooperageref1_From.l0 k l0 a1 a2 ([] : List (S34)) 0
theorem cooperageref1_From.mono_l : ∀ k, (∀ y0 y1 y2 y3 y4, LeO (cooperageref1_From.l0 k y0 y1 y2 y3 y4) (cooperageref1_From.l0 (k + 1) y0 y1 y2 y3 y4)) ∧ (∀ y0 y1 y2 y3 y4 y5, LeO (cooperageref1_From.j1 k y0 y1 y2 y3 y4 y5) (cooperageref1_From.j1 (k + 1) y0 y1 y2 y3 y4 y5))
  | 0 => ⟨fun _ _ _ _ _ r h => by simp [cooperageref1_From.l0] at h, fun _ _ _ _ _ _ r h => by simp [cooperageref1_From.j1] at h⟩
  | k + 1 => by
    obtain ⟨ih0, ih1⟩ := cooperageref1_From.mono_l k
    refine ⟨?_, ?_⟩
    · intro y0 y1 y2 y3 y4
      unfold cooperageref1_From.l0
      repeat' first
      | (with_reducible exact ih0 _ _ _ _ _)
      | (with_reducible exact ih1 _ _ _ _ _ _)
      | (with_reducible exact LeO.refl _)
      | (with_reducible exact LeO.none _)
      | (with_reducible refine LeO.ite ?_ ?_)
      | (with_reducible refine LeO.bind ?_ (fun _ => ?_))
      | exact ih0 _ _ _ _ _
      | exact ih1 _ _ _ _ _ _
      | exact LeO.none _
      | refine LeO.ite ?_ ?_
      | refine LeO.bind ?_ (fun _ => ?_)
    · intro y0 y1 y2 y3 y4 y5
      unfold cooperageref1_From.j1
      repeat' first
      | (with_reducible exact ih0 _ _ _ _ _)
      | (with_reducible exact ih1 _ _ _ _ _ _)
      | (with_reducible exact LeO.refl _)
      | (with_reducible exact LeO.none _)
      | (with_reducible refine LeO.ite ?_ ?_)
      | (with_reducible refine LeO.bind ?_ (fun _ => ?_))
      | exact ih0 _ _ _ _ _
      | exact ih1 _ _ _ _ _ _
      | exact LeO.none _
      | refine LeO.ite ?_ ?_
      | refine LeO.bind ?_ (fun _ => ?_)
theorem cooperageref1_From.mono : ∀ a0 a1 a2 k, LeO (cooperageref1_From.f k a0 a1 a2) (cooperageref1_From.f (k + 1) a0 a1 a2) := by
  intro a0 a1 a2 k
  obtain ⟨ih0, ih1⟩ := cooperageref1_From.mono_l k
  unfold cooperageref1_From.f
  repeat' first
      | (with_reducible exact ih0 _ _ _ _ _)
      | (with_reducible exact ih1 _ _ _ _ _ _)
      | (with_reducible exact LeO.refl _)
      | (with_reducible exact LeO.none _)
      | (with_reducible refine LeO.ite ?_ ?_)
      | (with_reducible refine LeO.bind ?_ (fun _ => ?_))
      | exact ih0 _ _ _ _ _
      | exact ih1 _ _ _ _ _ _
      | exact LeO.none _
      | refine LeO.ite ?_ ?_
      | refine LeO.bind ?_ (fun _ => ?_)
set_option maxHeartbeats 8000000 in
set_option maxRecDepth 100000 in
theorem cooperageref1_From.calls (k : Nat) (A0 : Option Addr) (c0 : Nat) (l0 : List (S34)) (a1 : Int) (a2 : Int) (r : List (S34)) (w : World) (hr0 : Kd.C k34 w A0 l0.length l0) (hc0 : l0.length ≤ c0) (h : cooperageref1_From.f k l0 a1 a2 = some r) :
    Calls Try.prog 27 #[.slice A0 l0.length c0, .int .i64 a1, .int .i64 a2] w fun e w' => ∃ v0_ : Value, e = .returned (v0_) ∧ Kd.R k34 34 w' w.heap.size (fun _ => True) v0_ r ∧ Below w.heap.size w w' := by
  have hu34 := Try.underlying34
  have HR0 := Aside0.mk hr0
  have HC0 := Aside0.mk hc0
  clear hr0 hc0
  have HB := Aside0.mk (Below.refl w.heap.size w)
  have H : (cooperageref1_From.l0 k l0 a1 a2 ([] : List (S34)) 0) = some r := h
  clear h
  have H' := Aside0.mk H
  clear H
  go_enter Try.func27, Try.ntmps27
  go_wp2
  go_loopg [7, 8] k (fun kq v7 v8 w' => ∃ (x7_1 : List (S34)) (x8_1 : Int), v8 = .int .i64 x8_1 ∧ Aside0 (cooperageref1_From.l0 kq l0 a1 a2 x7_1 x8_1 = some r) ∧ Aside0 (kq ≤ k) ∧ Aside0 (Kd.R k34 34 w' w.heap.size (fun _ => True) v7 x7_1) ∧ Aside0 (Below w.heap.size w w'))
  case atStart => exact ⟨(([] : List (S34))), (0), (by first | rfl | (simp; done) | (simp [*]; done)), H', ⟨Nat.le_refl _⟩, ⟨by first | exact Kd.R_nil _ _ _ _ _ | exact Kd.N_nil _ _ _ _ _ | exact Kd.V_nil _ _ _ _ _ | exact Kd.Q_nil _ _ _ _ _ | exact Kd.S_nil _ _ _ _ _⟩, ⟨by repeat (first | (with_reducible first | exact HB.out | apply below_alloc | apply pw_below_drewN | apply below_drew1) | exact HB.out)⟩⟩
  case round =>
    clear H'
    try clear c2
    try clear p2
    obtain ⟨x7_1, x8_1, rfl, HA, HK1, HO_7, HB⟩ := hrel
    cases gk with
    | zero => exact absurd HA.out (by simp [cooperageref1_From.l0])
    | succ k1 =>
      have H := HA.out
      clear HA
      simp only [cooperageref1_From.l0] at H
      have HC4 := Aside0.mk H
      clear H
      go_upto_region 3 with (fail)
      go_cut [18] (fun v18 wc => ∃ (kq : Nat) (x18_3 : Bool), v18 = .bool x18_3 ∧ Aside0 (cooperageref1_From.j1 kq l0 a1 a2 x7_1 x8_1 x18_3 = some r) ∧ Aside0 (kq ≤ k1) ∧ Aside0 (Kd.R k34 34 wc w.heap.size (fun _ => True) u7 x7_1) ∧ Aside0 (Below w.heap.size w wc))
      case first =>
        have H := HC4.out
        clear HC4
        by_cases c5 : x8_1 < (l0.length : Int)
        · rw [if_pos c5] at H
          have c5b0 : decide (x8_1 < (l0.length : Int)) = true := decide_eq_true c5
          clear c5
          (first | rw [c5b0] | (simp only [i64_w, i32_w]; rw [c5b0]) | skip)
          have H' := Aside0.mk H
          clear H
          obtain ⟨Ao6, co6, eo6⟩ := Kd.R_slice HO_7.out
          subst eo6
          go_wp2
          go_meet
          case rel => exact ⟨_, (decide ((x7_1.length : Int) < a2)), (by first | rfl | (simp; done) | (simp [*]; done)), H', ⟨by have := HK1.out; first | omega | exact Nat.le_refl _⟩, ⟨by (with_reducible repeat (first | apply Kd.R_alloc | apply Kd.R_drewN | apply Kd.R_drew)); exact HO_7.out⟩, ⟨by repeat (first | (with_reducible first | exact HB.out | apply below_alloc | apply pw_below_drewN | apply below_drew1) | exact HB.out)⟩⟩
        · rw [if_neg c5] at H
          have c5b0 : decide (x8_1 < (l0.length : Int)) = false := decide_eq_false c5
          clear c5
          (first | rw [c5b0] | (simp only [i64_w, i32_w]; rw [c5b0]) | skip)
          have H' := Aside0.mk H
          clear H
          go_wp2
          go_meet
          case rel => exact ⟨_, (false), (by first | rfl | (simp; done) | (simp [*]; done)), H', ⟨by have := HK1.out; first | omega | exact Nat.le_refl _⟩, ⟨by (with_reducible repeat (first | apply Kd.R_alloc | apply Kd.R_drewN | apply Kd.R_drew)); exact HO_7.out⟩, ⟨by repeat (first | (with_reducible first | exact HB.out | apply below_alloc | apply pw_below_drewN | apply below_drew1) | exact HB.out)⟩⟩
      case rest =>
        clear HC4
        try clear c2
        try clear p2
        try clear c5
        try clear c5b0
        try clear p2
        obtain ⟨kq, x18_3, rfl, HA, HJ3, HO_7, HB⟩ := hcut
        cases kq with
        | zero => exact absurd HA.out (by simp [cooperageref1_From.j1])
        | succ kj3 =>
          have H := HA.out
          clear HA
          simp only [cooperageref1_From.j1] at H
          by_cases c7 : x18_3 = true
          · subst c7
            have H1 : (if 0 ≤ x8_1 then (if x8_1 < (l0.length : Int) then (if ((rd_T34 l0 x8_1).f0) ≥ a1 then (if x7_1.length < 2513169434916 then (cooperageref1_From.l0 kj3 l0 a1 a2 (x7_1 ++ [(⟨(rd_T34 l0 x8_1).f0, (rd_T34 l0 x8_1).f1, (rd_T34 l0 x8_1).f2, (rd_T34 l0 x8_1).f3, (rd_T34 l0 x8_1).f4⟩ : S34)]) (wrap64 (x8_1 + 1))) else (none)) else (cooperageref1_From.l0 kj3 l0 a1 a2 x7_1 (wrap64 (x8_1 + 1)))) else (none)) else (none)) = some r := by rw [if_pos rfl] at H; exact H
            clear H
            have H := H1
            clear H1
            by_cases c8 : 0 ≤ x8_1
            · rw [if_pos c8] at H
              have c8b0 : decide (0 ≤ x8_1) = true := decide_eq_true c8
              clear c8
              by_cases c9 : x8_1 < (l0.length : Int)
              · rw [if_pos c9] at H
                have c9b0 : decide (x8_1 < (l0.length : Int)) = true := decide_eq_true c9
                clear c9
                by_cases c10 : ((rd_T34 l0 x8_1).f0) ≥ a1
                · rw [if_pos c10] at H
                  have c10b0 : decide (a1 ≤ ((rd_T34 l0 x8_1).f0)) = true := decide_eq_true c10
                  clear c10
                  by_cases c11 : x7_1.length < 2513169434916
                  · rw [if_pos c11] at H
                    have LMc11 := Aside0.mk c11
                    clear c11
                    obtain ⟨y558, hy558⟩ : ∃ y_ : List (S34), y_ = (x7_1 ++ [(⟨(rd_T34 l0 x8_1).f0, (rd_T34 l0 x8_1).f1, (rd_T34 l0 x8_1).f2, (rd_T34 l0 x8_1).f3, (rd_T34 l0 x8_1).f4⟩ : S34)]) := ⟨_, rfl⟩
                    replace H : (cooperageref1_From.l0 kj3 l0 a1 a2 y558 (wrap64 (x8_1 + 1))) = some r := by first | (rw [hy558]; with_reducible exact H) | (have H2_ := (Option.bind_some _ _).symm.trans H; rw [hy558]; with_reducible exact H2_) | (have H2_ := (Option.bind_some _ _).symm.trans H; with_reducible exact H2_) | with_reducible exact H | (rw [hy558]; exact H) | exact H
                    have Ny558 := Aside0.mk hy558
                    clear hy558
                    have H' := Aside0.mk H
                    clear H
                    have p556 : 0 ≤ (x8_1 : Int) := of_decide_eq_true (by first | (with_reducible assumption) | assumption)
                    have q556 : x8_1 < (l0.length : Int) := of_decide_eq_true (by first | (with_reducible assumption) | assumption)
                    obtain ⟨ad556, e556, hx556_0, hx556_1, hx556_2, hx556_3, hx556_4⟩ := at_T34 HR0.out x8_1 p556 q556
                    cases e556
                    replace hx556_0 := (HB.out.cell (World.block_lt_of_cell? w _ hx556_0)).trans hx556_0
                    replace hx556_1 := (HB.out.cell (World.block_lt_of_cell? w _ hx556_1)).trans hx556_1
                    replace hx556_2 := (HB.out.cell (World.block_lt_of_cell? w _ hx556_2)).trans hx556_2
                    replace hx556_3 := (HB.out.cell (World.block_lt_of_cell? w _ hx556_3)).trans hx556_3
                    replace hx556_4 := (HB.out.cell (World.block_lt_of_cell? w _ hx556_4)).trans hx556_4
                    replace p556 := eq_true p556
                    replace q556 := eq_true q556
                    have p557 : 0 ≤ (x8_1 : Int) := of_decide_eq_true (by first | (with_reducible assumption) | assumption)
                    have q557 : x8_1 < (l0.length : Int) := of_decide_eq_true (by first | (with_reducible assumption) | assumption)
                    obtain ⟨ad557, e557, hx557_0, hx557_1, hx557_2, hx557_3, hx557_4⟩ := at_T34 HR0.out x8_1 p557 q557
                    obtain rfl : ad556 = ad557 := (by injection e557)
                    replace hx557_0 := (HB.out.cell (World.block_lt_of_cell? w _ hx557_0)).trans hx557_0
                    replace hx557_1 := (HB.out.cell (World.block_lt_of_cell? w _ hx557_1)).trans hx557_1
                    replace hx557_2 := (HB.out.cell (World.block_lt_of_cell? w _ hx557_2)).trans hx557_2
                    replace hx557_3 := (HB.out.cell (World.block_lt_of_cell? w _ hx557_3)).trans hx557_3
                    replace hx557_4 := (HB.out.cell (World.block_lt_of_cell? w _ hx557_4)).trans hx557_4
                    replace p557 := eq_true p557
                    replace q557 := eq_true q557
                    go_wp2_with (first | ((with_reducible refine gate_builtin (b := .append) (xs := #[(.tmp 28), .tmp 33]) rfl ?_); (try (refine gate_guard (by rfl) ?_; dsimp only)); at_builtin; refine Kd.R_append k34 (w0 := w) w.heap.size rfl (.tmp 28) (.tmp 33) 22 34 (.agg #[(.int .i64 0), (.int .i64 0), (.string ⟨#[]⟩), (.string ⟨#[]⟩), (.bool false)]) 56 rfl Try.underlying22 info34 rfl (by decide) (by omega) u7 x7_1 (⟨(rd_T34 l0 x8_1).f0, (rd_T34 l0 x8_1).f1, (rd_T34 l0 x8_1).f2, (rd_T34 l0 x8_1).f3, (rd_T34 l0 x8_1).f4⟩ : S34) [.int .i64 ((rd_T34 l0 x8_1).f0), .int .i64 ((rd_T34 l0 x8_1).f1), .string ((rd_T34 l0 x8_1).f2), .string ((rd_T34 l0 x8_1).f3), .bool ((rd_T34 l0 x8_1).f4)] (fun _ => True) (fun _ => False) rfl rfl ?aP (fun _ hk => hk.elim) ?aF ?aO ?aB ?aS ?aL ?_; (case aP => exact k34_mkM _ _ _ (⟨(rd_T34 l0 x8_1).f0, (rd_T34 l0 x8_1).f1, (rd_T34 l0 x8_1).f2, (rd_T34 l0 x8_1).f3, (rd_T34 l0 x8_1).f4⟩ : S34)); (case aB => exact (by repeat (first | (with_reducible first | exact HB.out | apply below_alloc | apply pw_below_drewN | apply below_drew1) | exact HB.out))); (case aF => exact (fun _ _ => trivial)); (case aO => exact (by (with_reducible repeat (first | apply Kd.R_alloc | apply Kd.R_drewN | apply Kd.R_drew)); exact HO_7.out)); (case aS => exact (below_size (by repeat (first | (with_reducible first | exact HB.out | apply below_alloc | apply pw_below_drewN | apply below_drew1) | exact HB.out)))); (case aL => have := LMc11.out; omega); intro v559 w12 ho hb hg hat; rw [← Ny558.out] at ho; have n0_ := Aside0.mk (hb); have n1_ := Aside0.mk (ho); clear HB; clear HO_7; have HB := n0_; have HO560 := n1_; clear n0_ n1_; clear ho hb hg hat))
                    go_roundg kj3
                    case measure => have := HK1.out; have := HJ3.out; omega
                    case rel => exact ⟨(y558), (wrap64 (x8_1 + 1)), (by first | rfl | (simp; done) | (simp [*]; done)), H', ⟨by have := HK1.out; have := HJ3.out; omega⟩, ⟨by (with_reducible repeat (first | apply Kd.R_alloc | apply Kd.R_drewN | apply Kd.R_drew)); exact HO560.out⟩, ⟨by repeat (first | (with_reducible first | exact HB.out | apply below_alloc | apply pw_below_drewN | apply below_drew1) | exact HB.out)⟩⟩
                  · rw [if_neg c11] at H
                    exact absurd H (by simp)
                · rw [if_neg c10] at H
                  have c10b0 : decide (a1 ≤ ((rd_T34 l0 x8_1).f0)) = false := decide_eq_false c10
                  clear c10
                  have H' := Aside0.mk H
                  clear H
                  have p556 : 0 ≤ (x8_1 : Int) := of_decide_eq_true (by first | (with_reducible assumption) | assumption)
                  have q556 : x8_1 < (l0.length : Int) := of_decide_eq_true (by first | (with_reducible assumption) | assumption)
                  obtain ⟨ad556, e556, hx556_0, hx556_1, hx556_2, hx556_3, hx556_4⟩ := at_T34 HR0.out x8_1 p556 q556
                  cases e556
                  replace hx556_0 := (HB.out.cell (World.block_lt_of_cell? w _ hx556_0)).trans hx556_0
                  replace hx556_1 := (HB.out.cell (World.block_lt_of_cell? w _ hx556_1)).trans hx556_1
                  replace hx556_2 := (HB.out.cell (World.block_lt_of_cell? w _ hx556_2)).trans hx556_2
                  replace hx556_3 := (HB.out.cell (World.block_lt_of_cell? w _ hx556_3)).trans hx556_3
                  replace hx556_4 := (HB.out.cell (World.block_lt_of_cell? w _ hx556_4)).trans hx556_4
                  replace p556 := eq_true p556
                  replace q556 := eq_true q556
                  go_wp2
                  go_roundg kj3
                  case measure => have := HK1.out; have := HJ3.out; omega
                  case rel => exact ⟨(x7_1), (wrap64 (x8_1 + 1)), (by first | rfl | (simp; done) | (simp [*]; done)), H', ⟨by have := HK1.out; have := HJ3.out; omega⟩, ⟨by (with_reducible repeat (first | apply Kd.R_alloc | apply Kd.R_drewN | apply Kd.R_drew)); exact HO_7.out⟩, ⟨by repeat (first | (with_reducible first | exact HB.out | apply below_alloc | apply pw_below_drewN | apply below_drew1) | exact HB.out)⟩⟩
              · rw [if_neg c9] at H
                exact absurd H (by simp)
            · rw [if_neg c8] at H
              exact absurd H (by simp)
          · replace c7 := Bool.eq_false_iff.mpr c7
            subst c7
            have H1 : (some x7_1) = some r := by rw [if_neg (show ¬ (false = true) by decide)] at H; exact H
            clear H
            have H := H1
            clear H1
            obtain rfl := Option.some.inj H
            go_wp2
            go_ret
            exact ⟨_, by first | rfl | (simp [errW_none, errW_some] <;> rfl) | (simp [*, errW_none, errW_some] <;> rfl) | (simp [errW_none, errW_some]; generalize ByteArray.toList _ = l_; cases l_ <;> rfl), by (with_reducible repeat (first | apply Kd.R_alloc | apply Kd.R_drewN | apply Kd.R_drew)); exact HO_7.out, by repeat (first | (with_reducible first | exact HB.out | apply below_alloc | apply pw_below_drewN | apply below_drew1) | exact HB.out)⟩

end Go.Proofs.Ytphnolgneojdhaa.S

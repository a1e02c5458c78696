-- printed by a program of this session (a changed copy of the kit's printer; squeeze.py)
import Derived.Test.YtphnolgneojdhaaVx0
import Derived.Test.YtphnolgneojdhaaVx11
import Derived.Test.YtphnolgneojdhaaVx12
namespace Go.Proofs.Ytphnolgneojdhaa.V
open Go.RowKit Go.Proofs.YtphnolgneojdhaaW.PrintWords Go.Proofs.YtphnolgneojdhaaW.PrintLast Go.Proofs.YtphnolgneojdhaaW.PrintMore
attribute [local go_sem] max2_int min2_int max_two min_two max_three min_three max_four min_four   -- for this text's walks alone
set_option linter.unusedVariables false
set_option linter.unusedSimpArgs false
/-! ### index_Find: function 28 -/
def index_Find_1.f (x0 x1 : Int) (x2 x3 : ByteArray) (x4 : Bool) (a : Int) : Option Bool := some (decide (x0 ≥ a))
theorem index_Find_1.calls (x0 x1 : Int) (x2 x3 : ByteArray) (x4 : Bool) (a : Int) (r : Bool) (w : World) (h : index_Find_1.f x0 x1 x2 x3 x4 a = some r) (B : Nat) (hB : w.cell? ⟨B, 0, none⟩ = some (.int .i64 a)) :
    Calls Try.prog 47 #[.agg #[.int .i64 x0, .int .i64 x1, .string x2, .string x3, .bool x4], .pointer (some ⟨B, 0, none⟩)] w fun e w' => e = .returned (.bool r) ∧ Below w.heap.size w w' := by
  have hr := Option.some.inj h
  subst hr
  clear h
  have hu34 := Try.underlying34
  have hlt := World.block_lt_of_cell? w _ hB
  go_enter Try.func47, Try.ntmps47
  go_wp2
  go_ret
  exact ⟨rfl, (Below.refl _ w).alloc (Nat.le_refl _) _⟩
mutual
def index_Find_first.j0 : Nat → List Int → Int → Int → Bool → Option (Int × Int × ByteArray × ByteArray × Bool × Bool)
  | 0, _, _, _, _ => none
  | k + 1, x0, x1, x2, x19 => if x19 = true then (index_Find_first.j1 k x0 0 x2) else (index_Find_first.j1 k x0 x1 x2)
def index_Find_first.j1 : Nat → List Int → Int → Int → Option (Int × Int × ByteArray × ByteArray × Bool × Bool)
  | 0, _, _, _ => none
  | k + 1, x0, x1, x2 => if 0 ≤ x1 then (if x1 ≤ (x0.length : Int) then ((segment_Scan.f k (x0.drop (x1 : Int).toNat)).bind fun bt598 => (index_Find_first.l0 k x2 bt598.1 (bt598.1.length : Int) 0)) else (none)) else (none)
def index_Find_first.l0 : Nat → Int → List (S34) → Int → Int → Option (Int × Int × ByteArray × ByteArray × Bool × Bool)
  | 0, _, _, _, _ => none
  | k + 1, x2, x27, x28, x29 => if x29 < x28 then (if 0 ≤ x29 then (if x29 < (x27.length : Int) then ((index_Find_1.f ((rd_T34 x27 x29).f0) ((rd_T34 x27 x29).f1) ((rd_T34 x27 x29).f2) ((rd_T34 x27 x29).f3) ((rd_T34 x27 x29).f4) x2).bind fun t604 => (if t604 = true then (some ((rd_T34 x27 x29).f0, (rd_T34 x27 x29).f1, (rd_T34 x27 x29).f2, (rd_T34 x27 x29).f3, (rd_T34 x27 x29).f4, true)) else (index_Find_first.l0 k x2 x27 x28 (wrap64 (x29 + 1))))) else (none)) else (none)) else (some (0, 0, (⟨#[]⟩ : ByteArray), (⟨#[]⟩ : ByteArray), false, false))
end
def index_Find_first.f (k : Nat) (l0 : List Int) (a1 : Int) (a2 : Int) : Option (Int × Int × ByteArray × ByteArray × Bool × Bool) := if a1 < 0 then (index_Find_first.j0 k l0 a1 a2 true) else (index_Find_first.j0 k l0 a1 a2 (decide (a1 > (l0.length : Int))))
theorem index_Find_first.mono_l : ∀ k, (∀ y0 y1 y2 y3, LeO (index_Find_first.j0 k y0 y1 y2 y3) (index_Find_first.j0 (k + 1) y0 y1 y2 y3)) ∧ (∀ y0 y1 y2, LeO (index_Find_first.j1 k y0 y1 y2) (index_Find_first.j1 (k + 1) y0 y1 y2)) ∧ (∀ y0 y1 y2 y3, LeO (index_Find_first.l0 k y0 y1 y2 y3) (index_Find_first.l0 (k + 1) y0 y1 y2 y3))
  | 0 => ⟨fun _ _ _ _ r h => by simp [index_Find_first.j0] at h, fun _ _ _ r h => by simp [index_Find_first.j1] at h, fun _ _ _ _ r h => by simp [index_Find_first.l0] at h⟩
  | k + 1 => by
    obtain ⟨ih0, ih1, ih2⟩ := index_Find_first.mono_l k
    refine ⟨?_, ?_, ?_⟩
    · intro y0 y1 y2 y3
      unfold index_Find_first.j0
      repeat' first
      | (with_reducible exact LeO.refl _)
      | (with_reducible exact LeO.none _)
      | (with_reducible refine LeO.ite ?_ ?_)
      | (with_reducible refine LeO.bind ?_ (fun _ => ?_))
      | exact ih0 _ _ _ _
      | exact ih1 _ _ _
      | exact ih2 _ _ _ _
      | exact segment_Scan.mono _ _
      | exact LeO.none _
      | refine LeO.ite ?_ ?_
      | refine LeO.bind ?_ (fun _ => ?_)
    · intro y0 y1 y2
      unfold index_Find_first.j1
      repeat' first
      | (with_reducible exact LeO.refl _)
      | (with_reducible exact LeO.none _)
      | (with_reducible refine LeO.ite ?_ ?_)
      | (with_reducible refine LeO.bind ?_ (fun _ => ?_))
      | exact ih0 _ _ _ _
      | exact ih1 _ _ _
      | exact ih2 _ _ _ _
      | exact segment_Scan.mono _ _
      | exact LeO.none _
      | refine LeO.ite ?_ ?_
      | refine LeO.bind ?_ (fun _ => ?_)
    · intro y0 y1 y2 y3
      unfold index_Find_first.l0
      repeat' first
      | (with_reducible exact LeO.refl _)
      | (with_reducible exact LeO.none _)
      | (with_reducible refine LeO.ite ?_ ?_)
      | (with_reducible refine LeO.bind ?_ (fun _ => ?_))
      | exact ih0 _ _ _ _
      | exact ih1 _ _ _
      | exact ih2 _ _ _ _
      | exact segment_Scan.mono _ _
      | exact LeO.none _
      | refine LeO.ite ?_ ?_
      | refine LeO.bind ?_ (fun _ => ?_)
theorem index_Find_first.mono : ∀ a0 a1 a2 k, LeO (index_Find_first.f k a0 a1 a2) (index_Find_first.f (k + 1) a0 a1 a2) := by
  intro a0 a1 a2 k
  obtain ⟨ih0, ih1, ih2⟩ := index_Find_first.mono_l k
  unfold index_Find_first.f
  repeat' first
      | (with_reducible exact LeO.refl _)
      | (with_reducible exact LeO.none _)
      | (with_reducible refine LeO.ite ?_ ?_)
      | (with_reducible refine LeO.bind ?_ (fun _ => ?_))
      | exact ih0 _ _ _ _
      | exact ih1 _ _ _
      | exact ih2 _ _ _ _
      | exact segment_Scan.mono _ _
      | exact LeO.none _
      | refine LeO.ite ?_ ?_
      | refine LeO.bind ?_ (fun _ => ?_)
set_option maxHeartbeats 8000000 in
set_option maxRecDepth 100000 in
theorem index_Find_first.calls (k : Nat) (A0 : Option Addr) (c0 : Nat) (l0 : List Int) (a1 : Int) (a2 : Int) (r1 : Int) (r2 : Int) (r3 : ByteArray) (r4 : ByteArray) (r5 : Bool) (r6 : Bool) (w : World) (hr0 : Kd.C (Kd.int .u8) w A0 l0.length l0) (hc0 : l0.length ≤ c0) (Bc : Nat) (hBc : w.cell? ⟨Bc, 0, none⟩ = some (.int .i64 a2)) (h : index_Find_first.f k l0 a1 a2 = some (r1, r2, r3, r4, r5, r6)) :
    Calls Try.prog 46 #[.slice A0 l0.length c0, .int .i64 a1, .func (.func 47) #[] #[.pointer (some ⟨Bc, 0, none⟩)]] w fun e w' => e = .returned (.tuple #[.agg #[.int .i64 r1, .int .i64 r2, .string r3, .string r4, .bool r5], .bool r6]) ∧ Below w.heap.size w w' := by
  have hu34 := Try.underlying34
  have HR0 := Aside0.mk hr0
  have HC0 := Aside0.mk hc0
  have hltC := World.block_lt_of_cell? w _ hBc
  have HBC := Aside0.mk hBc
  clear hr0 hc0 hBc
  have HB := Aside0.mk (Below.refl w.heap.size w)
  have H : (if a1 < 0 then (index_Find_first.j0 k l0 a1 a2 true) else (index_Find_first.j0 k l0 a1 a2 (decide (a1 > (l0.length : Int))))) = some (r1, r2, r3, r4, r5, r6) := h
  clear h
  have HC4 := Aside0.mk H
  clear H
  go_enter Try.func46, Try.ntmps46
  go_upto_region 1 with (first | ((with_reducible refine gate_dst (N := 6) rfl ?_); (try (refine gate_guard (by rfl) ?_; dsimp only)); refine box_event ?hg (N := 6) ?hd (cs := #[.int .i64 0, .int .i64 0, .string (⟨#[]⟩ : ByteArray), .string (⟨#[]⟩ : ByteArray), .bool false]) (t := 34) ?hr ?_; (case hd => rfl); (case hg => rfl); (case hr => first | (go_simp; done) | (go_simp; rfl)); intro gb596 hg w5 hbox hb; have n0_ := Aside0.mk (vT (by repeat (first | (with_reducible first | exact HB.out | apply vA | apply vN | apply vD) | exact HB.out)) hb); have n1_ := Aside0.mk (hbox); have n2_ := Aside0.mk ((by rw [hg]; exact (vZ (by repeat (first | (with_reducible first | exact HB.out | apply vA | apply vN | apply vD) | exact HB.out))) : w.heap.size ≤ gb596)); have n3_ := Aside0.mk ((by rw [hg]; exact (vZ (by repeat (first | (with_reducible first | exact HB.out | apply vA | apply vN | apply vD) | exact HB.out))) : w.heap.size ≤ gb596)); clear HB; have HB := n0_; have BK596 := n1_; have GW596 := n2_; have GE596 := n3_; clear n0_ n1_ n2_ n3_; clear hb hbox hg))
  (try simp only [Act.put, List.setIfInBounds_toArray, List.set_cons_zero, List.set_cons_succ])
  go_cut [19] (fun v19 wc => ∃ (kq : Nat) (x19_3 : Bool), v19 = .bool x19_3 ∧ Aside0 (index_Find_first.j0 kq l0 a1 a2 x19_3 = some (r1, r2, r3, r4, r5, r6)) ∧ Aside0 (kq ≤ k) ∧ Aside0 (wc.heap[gb596]? = some (.cells #[.int .i64 0, .int .i64 0, .string (⟨#[]⟩ : ByteArray), .string (⟨#[]⟩ : ByteArray), .bool false] 34 (0, 0))) ∧ Aside0 (Below w.heap.size w wc))
  case first =>
    have H := HC4.out
    clear HC4
    by_cases c6 : a1 < 0
    · rw [if_pos c6] at H
      have c6b0 : decide (a1 < 0) = true := decide_eq_true c6
      clear c6
      (first | rw [c6b0] | (simp only [i64_w, i32_w]; rw [c6b0]) | skip)
      have H' := Aside0.mk H
      clear H
      go_wp2
      go_meet
      case rel => exact ⟨_, (true), (by first | rfl | (simp; done) | (simp [*]; done)), H', ⟨by first | omega | exact Nat.le_refl _⟩, ⟨by (with_reducible repeat (first | refine bN ?_ _ | refine bD ?_ | refine bA ?_ _)); exact BK596.out⟩, ⟨by repeat (first | (with_reducible first | exact HB.out | apply vA | apply vN | apply vD | refine vS ?_ GE596.out) | exact HB.out)⟩⟩
    · rw [if_neg c6] at H
      have c6b0 : decide (a1 < 0) = false := decide_eq_false c6
      clear c6
      (first | rw [c6b0] | (simp only [i64_w, i32_w]; rw [c6b0]) | skip)
      have H' := Aside0.mk H
      clear H
      go_wp2
      go_meet
      case rel => exact ⟨_, (decide (a1 > (l0.length : Int))), (by first | rfl | (simp; done) | (simp [*]; done)), H', ⟨by first | omega | exact Nat.le_refl _⟩, ⟨by (with_reducible repeat (first | refine bN ?_ _ | refine bD ?_ | refine bA ?_ _)); exact BK596.out⟩, ⟨by repeat (first | (with_reducible first | exact HB.out | apply vA | apply vN | apply vD | refine vS ?_ GE596.out) | exact HB.out)⟩⟩
  case rest =>
    clear HC4
    try clear p2
    try clear c4
    try clear c6
    try clear c6b0
    obtain ⟨kq, x19_3, rfl, HA, HJ3, BK596, HB⟩ := hcut
    cases kq with
    | zero => exact absurd HA.out (by simp [index_Find_first.j0])
    | succ kj3 =>
      have H := HA.out
      clear HA
      simp only [index_Find_first.j0] at H
      have HC7 := Aside0.mk H
      clear H
      go_upto_if 19 with (fail)
      go_cut [1] (fun v1 wc => ∃ (kq : Nat) (x1_6 : Int), v1 = .int .i64 x1_6 ∧ Aside0 (index_Find_first.j1 kq l0 x1_6 a2 = some (r1, r2, r3, r4, r5, r6)) ∧ Aside0 (kq ≤ kj3) ∧ Aside0 (wc.heap[gb596]? = some (.cells #[.int .i64 0, .int .i64 0, .string (⟨#[]⟩ : ByteArray), .string (⟨#[]⟩ : ByteArray), .bool false] 34 (0, 0))) ∧ Aside0 (Below w.heap.size w wc))
      case first =>
        have H := HC7.out
        clear HC7
        by_cases c8 : x19_3 = true
        · subst c8
          have H1 : (index_Find_first.j1 kj3 l0 0 a2) = some (r1, r2, r3, r4, r5, r6) := by rw [if_pos rfl] at H; exact H
          clear H
          have H := H1
          clear H1
          have H' := Aside0.mk H
          clear H
          go_wp2
          go_meet
          case rel => exact ⟨_, (0), (by first | rfl | (simp; done) | (simp [*]; done)), H', ⟨by have := HJ3.out; first | omega | exact Nat.le_refl _⟩, ⟨by (with_reducible repeat (first | refine bN ?_ _ | refine bD ?_ | refine bA ?_ _)); exact BK596.out⟩, ⟨by repeat (first | (with_reducible first | exact HB.out | apply vA | apply vN | apply vD | refine vS ?_ GE596.out) | exact HB.out)⟩⟩
        · replace c8 := Bool.eq_false_iff.mpr c8
          subst c8
          have H1 : (index_Find_first.j1 kj3 l0 a1 a2) = some (r1, r2, r3, r4, r5, r6) := by rw [if_neg (show ¬ (false = true) by decide)] at H; exact H
          clear H
          have H := H1
          clear H1
          have H' := Aside0.mk H
          clear H
          go_wp2
          go_meet
          case rel => exact ⟨_, (a1), (by first | rfl | (simp; done) | (simp [*]; done)), H', ⟨by have := HJ3.out; first | omega | exact Nat.le_refl _⟩, ⟨by (with_reducible repeat (first | refine bN ?_ _ | refine bD ?_ | refine bA ?_ _)); exact BK596.out⟩, ⟨by repeat (first | (with_reducible first | exact HB.out | apply vA | apply vN | apply vD | refine vS ?_ GE596.out) | exact HB.out)⟩⟩
      case rest =>
        clear HC7
        try clear p2
        try clear c4
        try clear c6
        try clear c6b0
        try clear c8
        try clear p2
        obtain ⟨kq, x1_6, rfl, HA, HJ6, BK596, HB⟩ := hcut
        cases kq with
        | zero => exact absurd HA.out (by simp [index_Find_first.j1])
        | succ kj6 =>
          have H := HA.out
          clear HA
          simp only [index_Find_first.j1] at H
          by_cases c9 : 0 ≤ x1_6
          · rw [if_pos c9] at H
            have c9b0 := eq_true c9
            have c9b1 : decide (0 ≤ x1_6) = true := decide_eq_true c9
            clear c9
            by_cases c10 : x1_6 ≤ (l0.length : Int)
            · rw [if_pos c10] at H
              have c10b0 := eq_true c10
              have c10b1 : decide (x1_6 ≤ (l0.length : Int)) = true := decide_eq_true c10
              clear c10
              replace H := Option.bind_eq_some_iff.mp H
              obtain ⟨⟨t598, t599⟩, A110, H⟩ := H
              replace H : (index_Find_first.l0 kj6 a2 t598 (t598.length : Int) 0) = some (r1, r2, r3, r4, r5, r6) := H
              have A11 := Aside0.mk A110
              clear A110
              have H' := Aside0.mk H
              clear H
              obtain ⟨i012, hi012, _, hsz12, _⟩ := info_parts info5
              obtain ⟨A12, hcut12, hA12, hC12⟩ := print_drop_of (P := Try.prog) (Value.int .u8) 0 37 5 .i64 Try.underlying37 hi012 hsz12 A0 c0 l0 x1_6 (of_decide_eq_true (by first | (with_reducible assumption) | assumption)) (of_decide_eq_true (by first | (with_reducible assumption) | assumption)) HC0.out
              have HR597 := Aside0.mk (Kd.C_of_reads (h1 := fun _ => rfl) (hA12 _ (Kd.reads_of_C HR0.out)))
              have HC597 := Aside0.mk hC12
              clear hA12 hC12 hi012 hsz12
              go_wp2_with (first | ((with_reducible refine gate_callee (f := 19) rfl ?_); refine goesL_ (some 24) rfl rfl Try.func19 (by kernel_rfl) rfl #[.slice A12 (l0.drop (x1_6 : Int).toNat).length (c0 - x1_6.toNat)] rfl (by (try simp only [List.map_toArray, List.map_cons, List.map_nil]); first | done | (rw [show (l0.drop (x1_6 : Int).toNat).length = (l0.length - x1_6.toNat) from List.length_drop] <;> rfl) | rfl | (simp only [List.length_drop, List.length_take]; rfl)) ?_; (with_reducible refine (segment_Scan.calls kj6 _ _ (l0.drop (x1_6 : Int).toNat) t598 t599 _ ?side1 ?side2 A11.out).mono ?_); (case side1 => repeat (first | exact (Kd.C_below HR597.out HB.out) | (with_reducible refine Kd.C_alloc ?_ _) | (with_reducible refine Kd.C_drewN ?_ _) | (with_reducible refine Kd.C_drew ?_))); (case side2 => exact HC597.out); rintro e w13 ⟨v600, rfl, ho0, hb⟩; refine ⟨_, rfl, ?_⟩; have n0_ := Aside0.mk (Kd.RL (Kd.R_newB ho0 (g := gb596) (o := .cells #[.int .i64 0, .int .i64 0, .string (⟨#[]⟩ : ByteArray), .string (⟨#[]⟩ : ByteArray), .bool false] 34 (0, 0)) (by (with_reducible repeat (first | refine bN ?_ _ | refine bD ?_ | refine bA ?_ _)); exact BK596.out)) (vZ (by repeat (first | (with_reducible first | exact HB.out | apply vA | apply vN | apply vD | refine vS ?_ GE596.out) | exact HB.out)))); have n1_ := Aside0.mk (bB (g := gb596) (o := .cells #[.int .i64 0, .int .i64 0, .string (⟨#[]⟩ : ByteArray), .string (⟨#[]⟩ : ByteArray), .bool false] 34 (0, 0)) (by (with_reducible repeat (first | refine bN ?_ _ | refine bD ?_ | refine bA ?_ _)); exact BK596.out) hb); have n2_ := Aside0.mk (vT (by repeat (first | (with_reducible first | exact HB.out | apply vA | apply vN | apply vD | refine vS ?_ GE596.out) | exact HB.out)) hb); clear BK596; clear HB; have HO601 := n0_; have BK596 := n1_; have HB := n2_; clear n0_ n1_ n2_; (try clear hb); (try clear hb2); (try clear hk); (try clear hi); (try clear ho0); obtain ⟨Ao14, co14, eo14⟩ := Kd.R_slice HO601.out; subst eo14))
              go_loopg [29] kj6 (fun kq v29 w' => ∃ (x29_3 : Int) (x597000_3 : Int) (x597001_3 : Int) (x597002_3 : ByteArray) (x597003_3 : ByteArray) (x597004_3 : Bool), v29 = .int .i64 x29_3 ∧ Aside0 (index_Find_first.l0 kq a2 t598 (t598.length : Int) x29_3 = some (r1, r2, r3, r4, r5, r6)) ∧ Aside0 (kq ≤ kj6) ∧ Aside0 (Kd.R k34 34 w' w.heap.size (fun k_ => k_ ≠ gb596) (.slice Ao14 t598.length co14) t598) ∧ Aside0 (w'.heap[gb596]? = some (.cells #[.int .i64 x597000_3, .int .i64 x597001_3, .string x597002_3, .string x597003_3, .bool x597004_3] 34 (0, 0))) ∧ Aside0 (Below w.heap.size w w'))
              case atStart => exact ⟨(0), (0), (0), ((⟨#[]⟩ : ByteArray)), ((⟨#[]⟩ : ByteArray)), (false), (by first | rfl | (simp; done) | (simp [*]; done)), H', ⟨Nat.le_refl _⟩, ⟨by (with_reducible repeat (first | apply Kd.RA | apply Kd.RN | apply Kd.RD)); exact Kd.RM HO601.out (fun _ hk => hk.2)⟩, ⟨by (with_reducible repeat (first | refine bN ?_ _ | refine bD ?_ | refine bA ?_ _)); exact BK596.out⟩, ⟨by repeat (first | (with_reducible first | exact HB.out | apply vA | apply vN | apply vD | refine vS ?_ GE596.out) | exact HB.out)⟩⟩
              case round =>
                clear H'
                try clear c1
                try clear p2
                try clear c4
                try clear c6
                try clear c6b0
                try clear c8
                try clear c9
                try clear c9b0
                try clear c9b1
                try clear c10
                try clear c10b0
                try clear c10b1
                try clear p2
                obtain ⟨x29_3, x597000_3, x597001_3, x597002_3, x597003_3, x597004_3, rfl, HA, HK3, HO_27, BK596, HB⟩ := hrel
                cases gk with
                | zero => exact absurd HA.out (by simp [index_Find_first.l0])
                | succ k3 =>
                  have H := HA.out
                  clear HA
                  simp only [index_Find_first.l0] at H
                  by_cases c15 : x29_3 < (t598.length : Int)
                  · rw [if_pos c15] at H
                    have c15b0 : decide (x29_3 < (t598.length : Int)) = true := decide_eq_true c15
                    clear c15
                    by_cases c16 : 0 ≤ x29_3
                    · rw [if_pos c16] at H
                      have c16b0 : decide (0 ≤ x29_3) = true := decide_eq_true c16
                      clear c16
                      by_cases c17 : x29_3 < (t598.length : Int)
                      · rw [if_pos c17] at H
                        have c17b0 : decide (x29_3 < (t598.length : Int)) = true := decide_eq_true c17
                        clear c17
                        replace H := Option.bind_eq_some_iff.mp H
                        obtain ⟨t604, A180, H⟩ := H
                        replace H : (if t604 = true then (some ((rd_T34 t598 x29_3).f0, (rd_T34 t598 x29_3).f1, (rd_T34 t598 x29_3).f2, (rd_T34 t598 x29_3).f3, (rd_T34 t598 x29_3).f4, true)) else (index_Find_first.l0 k3 a2 t598 (t598.length : Int) (wrap64 (x29_3 + 1)))) = some (r1, r2, r3, r4, r5, r6) := H
                        have A18 := Aside0.mk A180
                        clear A180
                        by_cases c19 : t604 = true
                        · subst c19
                          have H1 : (some ((rd_T34 t598 x29_3).f0, (rd_T34 t598 x29_3).f1, (rd_T34 t598 x29_3).f2, (rd_T34 t598 x29_3).f3, (rd_T34 t598 x29_3).f4, true)) = some (r1, r2, r3, r4, r5, r6) := by rw [if_pos rfl] at H; exact H
                          clear H
                          have H := H1
                          clear H1
                          simp only [Option.some.injEq, Prod.mk.injEq] at H
                          obtain ⟨rfl, rfl, rfl, rfl, rfl, rfl⟩ := H
                          have p602 : 0 ≤ (x29_3 : Int) := of_decide_eq_true (by first | (with_reducible assumption) | assumption)
                          have q602 : x29_3 < (t598.length : Int) := of_decide_eq_true (by first | (with_reducible assumption) | assumption)
                          obtain ⟨ad602, e602, hx602_0, hx602_1, hx602_2, hx602_3, hx602_4⟩ := at_T34 (Kd.R_reads' HO_27.out).2.2 x29_3 p602 q602
                          cases e602
                          replace p602 := eq_true p602
                          replace q602 := eq_true q602
                          go_wp2_with (first | ((with_reducible refine gate_dst (N := 11) rfl ?_); (try (refine gate_guard (by rfl) ?_; dsimp only)); refine box_event ?hg (N := 11) ?hd (cs := #[.int .i64 0, .int .i64 0, .string (⟨#[]⟩ : ByteArray), .string (⟨#[]⟩ : ByteArray), .bool false]) (t := 34) ?hr ?_; (case hd => rfl); (case hg => rfl); (case hr => first | (go_simp; done) | (go_simp; rfl)); intro gb603 hg w20 hbox hb; have n0_ := Aside0.mk (Kd.RB (Kd.R_elderB (by (with_reducible repeat (first | apply Kd.RA | apply Kd.RN | apply Kd.RD)); exact HO_27.out) gb603 (Nat.le_of_eq hg.symm)) hb); have n1_ := Aside0.mk (bB (g := gb596) (o := .cells #[.int .i64 x597000_3, .int .i64 x597001_3, .string x597002_3, .string x597003_3, .bool x597004_3] 34 (0, 0)) (by (with_reducible repeat (first | refine bN ?_ _ | refine bD ?_ | refine bA ?_ _)); exact BK596.out) hb); have n2_ := Aside0.mk (vT (by repeat (first | (with_reducible first | exact HB.out | apply vA | apply vN | apply vD | refine vS ?_ GE596.out) | exact HB.out)) hb); have n3_ := Aside0.mk (hbox); have n4_ := Aside0.mk ((by rw [hg]; exact (vZ (by repeat (first | (with_reducible first | exact HB.out | apply vA | apply vN | apply vD | refine vS ?_ GE596.out) | exact HB.out))) : w.heap.size ≤ gb603)); have n5_ := Aside0.mk ((by rw [hg]; exact (vZ (by repeat (first | (with_reducible first | exact HB.out | apply vA | apply vN | apply vD | refine vS ?_ GE596.out) | exact HB.out))) : w.heap.size ≤ gb603)); have n6_ := Aside0.mk ((by rw [hg]; exact Nat.ne_of_lt (blk_lt (g := gb596) (o := .cells #[.int .i64 x597000_3, .int .i64 x597001_3, .string x597002_3, .string x597003_3, .bool x597004_3] 34 (0, 0)) (by (with_reducible repeat (first | refine bN ?_ _ | refine bD ?_ | refine bA ?_ _)); exact BK596.out)) : gb596 ≠ gb603)); have n7_ := Aside0.mk ((by rw [hg]; exact Nat.ne_of_gt (blk_lt (g := gb596) (o := .cells #[.int .i64 x597000_3, .int .i64 x597001_3, .string x597002_3, .string x597003_3, .bool x597004_3] 34 (0, 0)) (by (with_reducible repeat (first | refine bN ?_ _ | refine bD ?_ | refine bA ?_ _)); exact BK596.out)) : gb603 ≠ gb596)); clear HO_27; clear BK596; clear HB; have HO_27 := n0_; have BK596 := n1_; have HB := n2_; have BK603 := n3_; have GW603 := n4_; have GE603 := n5_; have NB596_603 := n6_; have NB603_596 := n7_; clear n0_ n1_ n2_ n3_ n4_ n5_ n6_ n7_; clear hb hbox hg; have hnb21 := NB603_596.out; have hnc21 := NB596_603.out; have hcz22_0 : w20.cell? ⟨gb603, 0, none⟩ = some (.int .i64 0) := (bC BK603.out 0).trans rfl; have hcz22_1 : w20.cell? ⟨gb603, 1, none⟩ = some (.int .i64 0) := (bC BK603.out 1).trans rfl; have hcz22_2 : w20.cell? ⟨gb603, 2, none⟩ = some (.string (⟨#[]⟩ : ByteArray)) := (bC BK603.out 2).trans rfl; have hcz22_3 : w20.cell? ⟨gb603, 3, none⟩ = some (.string (⟨#[]⟩ : ByteArray)) := (bC BK603.out 3).trans rfl; have hcz22_4 : w20.cell? ⟨gb603, 4, none⟩ = some (.bool false) := (bC BK603.out 4).trans rfl; have hfz22_0 := bF BK603.out 0; have hfz22_1 := bF BK603.out 1; have hfz22_2 := bF BK603.out 2; have hfz22_3 := bF BK603.out 3; have hfz22_4 := bF BK603.out 4) | (go_at_call 47; (with_reducible refine (index_Find_1.calls ((rd_T34 t598 x29_3).f0) ((rd_T34 t598 x29_3).f1) ((rd_T34 t598 x29_3).f2) ((rd_T34 t598 x29_3).f3) ((rd_T34 t598 x29_3).f4) a2 true _ A18.out Bc ?sideC).mono ?_); (case sideC => exact ((show Below w.heap.size w _ from by repeat (first | (with_reducible first | exact HB.out | apply vA | apply vN | apply vD | refine vS ?_ GE596.out | refine vS ?_ GE603.out) | exact HB.out)).cell hltC).trans HBC.out); rintro e w23 ⟨rfl, hb⟩; have n0_ := Aside0.mk (Kd.RB (by (with_reducible repeat (first | apply Kd.RA | apply Kd.RN | apply Kd.RD)); exact (Kd.RM (Kd.RF (p := ⟨gb603, 4, none⟩) (Kd.RF (p := ⟨gb603, 3, none⟩) (Kd.RF (p := ⟨gb603, 2, none⟩) (Kd.RF (p := ⟨gb603, 1, none⟩) (Kd.RF (p := ⟨gb603, 0, none⟩) (Kd.RM HO_27.out (fun k_ hk => (⟨hk, hk.2⟩ : _ ∧ k_ ≠ gb603))) (fun _ hk => hk.2) (.int .i64 ((rd_T34 t598 x29_3).f0))) (fun _ hk => hk.2) (.int .i64 ((rd_T34 t598 x29_3).f1))) (fun _ hk => hk.2) (.string ((rd_T34 t598 x29_3).f2))) (fun _ hk => hk.2) (.string ((rd_T34 t598 x29_3).f3))) (fun _ hk => hk.2) (.bool ((rd_T34 t598 x29_3).f4))) (fun _ h_ => h_.1))) hb); have n1_ := Aside0.mk (bB (g := gb596) (o := .cells #[.int .i64 x597000_3, .int .i64 x597001_3, .string x597002_3, .string x597003_3, .bool x597004_3] 34 (0, 0)) (by (with_reducible repeat (first | refine bN ?_ _ | refine bD ?_ | refine bA ?_ _)); refine bR ?_ NB596_603.out _; (with_reducible repeat (first | refine bN ?_ _ | refine bD ?_ | refine bA ?_ _)); refine bR ?_ NB596_603.out _; (with_reducible repeat (first | refine bN ?_ _ | refine bD ?_ | refine bA ?_ _)); refine bR ?_ NB596_603.out _; (with_reducible repeat (first | refine bN ?_ _ | refine bD ?_ | refine bA ?_ _)); refine bR ?_ NB596_603.out _; (with_reducible repeat (first | refine bN ?_ _ | refine bD ?_ | refine bA ?_ _)); refine bR ?_ NB596_603.out _; (with_reducible repeat (first | refine bN ?_ _ | refine bD ?_ | refine bA ?_ _)); exact BK596.out) hb); have n2_ := Aside0.mk (bB (g := gb603) (o := .cells #[.int .i64 ((rd_T34 t598 x29_3).f0), .int .i64 ((rd_T34 t598 x29_3).f1), .string ((rd_T34 t598 x29_3).f2), .string ((rd_T34 t598 x29_3).f3), .bool ((rd_T34 t598 x29_3).f4)] 34 (0, 0)) (by (with_reducible repeat (first | refine bN ?_ _ | refine bD ?_ | refine bA ?_ _)); refine bP (cs := #[.int .i64 ((rd_T34 t598 x29_3).f0), .int .i64 ((rd_T34 t598 x29_3).f1), .string ((rd_T34 t598 x29_3).f2), .string ((rd_T34 t598 x29_3).f3), .bool false]) ?_ 4 _ rfl; (with_reducible repeat (first | refine bN ?_ _ | refine bD ?_ | refine bA ?_ _)); refine bP (cs := #[.int .i64 ((rd_T34 t598 x29_3).f0), .int .i64 ((rd_T34 t598 x29_3).f1), .string ((rd_T34 t598 x29_3).f2), .string (⟨#[]⟩ : ByteArray), .bool false]) ?_ 3 _ rfl; (with_reducible repeat (first | refine bN ?_ _ | refine bD ?_ | refine bA ?_ _)); refine bP (cs := #[.int .i64 ((rd_T34 t598 x29_3).f0), .int .i64 ((rd_T34 t598 x29_3).f1), .string (⟨#[]⟩ : ByteArray), .string (⟨#[]⟩ : ByteArray), .bool false]) ?_ 2 _ rfl; (with_reducible repeat (first | refine bN ?_ _ | refine bD ?_ | refine bA ?_ _)); refine bP (cs := #[.int .i64 ((rd_T34 t598 x29_3).f0), .int .i64 0, .string (⟨#[]⟩ : ByteArray), .string (⟨#[]⟩ : ByteArray), .bool false]) ?_ 1 _ rfl; (with_reducible repeat (first | refine bN ?_ _ | refine bD ?_ | refine bA ?_ _)); refine bP (cs := #[.int .i64 0, .int .i64 0, .string (⟨#[]⟩ : ByteArray), .string (⟨#[]⟩ : ByteArray), .bool false]) ?_ 0 _ rfl; (with_reducible repeat (first | refine bN ?_ _ | refine bD ?_ | refine bA ?_ _)); exact BK603.out) hb); have n3_ := Aside0.mk (vT (by repeat (first | (with_reducible first | exact HB.out | apply vA | apply vN | apply vD | refine vS ?_ GE596.out | refine vS ?_ GE603.out) | exact HB.out)) hb); clear HO_27; clear BK596; clear BK603; clear HB; have HO_27 := n0_; have BK596 := n1_; have BK603 := n2_; have HB := n3_; clear n0_ n1_ n2_ n3_; (try clear hb); (try clear hb2); (try clear hk); (try clear hi); have hcz24_0 : w23.cell? ⟨gb603, 0, none⟩ = some (.int .i64 ((rd_T34 t598 x29_3).f0)) := (bC BK603.out 0).trans rfl; have hcz24_1 : w23.cell? ⟨gb603, 1, none⟩ = some (.int .i64 ((rd_T34 t598 x29_3).f1)) := (bC BK603.out 1).trans rfl; have hcz24_2 : w23.cell? ⟨gb603, 2, none⟩ = some (.string ((rd_T34 t598 x29_3).f2)) := (bC BK603.out 2).trans rfl; have hcz24_3 : w23.cell? ⟨gb603, 3, none⟩ = some (.string ((rd_T34 t598 x29_3).f3)) := (bC BK603.out 3).trans rfl; have hcz24_4 : w23.cell? ⟨gb603, 4, none⟩ = some (.bool ((rd_T34 t598 x29_3).f4)) := (bC BK603.out 4).trans rfl; have hfz24_0 := bF BK603.out 0; have hfz24_1 := bF BK603.out 1; have hfz24_2 := bF BK603.out 2; have hfz24_3 := bF BK603.out 3; have hfz24_4 := bF BK603.out 4; have hcz25_0 : w23.cell? ⟨gb596, 0, none⟩ = some (.int .i64 x597000_3) := (bC BK596.out 0).trans rfl; have hcz25_1 : w23.cell? ⟨gb596, 1, none⟩ = some (.int .i64 x597001_3) := (bC BK596.out 1).trans rfl; have hcz25_2 : w23.cell? ⟨gb596, 2, none⟩ = some (.string x597002_3) := (bC BK596.out 2).trans rfl; have hcz25_3 : w23.cell? ⟨gb596, 3, none⟩ = some (.string x597003_3) := (bC BK596.out 3).trans rfl; have hcz25_4 : w23.cell? ⟨gb596, 4, none⟩ = some (.bool x597004_3) := (bC BK596.out 4).trans rfl; have hfz25_0 := bF BK596.out 0; have hfz25_1 := bF BK596.out 1; have hfz25_2 := bF BK596.out 2; have hfz25_3 := bF BK596.out 3; have hfz25_4 := bF BK596.out 4))
                          refine bodyPost_ret (results_ct rfl _ _ gb596 34 #[.int .i64 ((rd_T34 t598 x29_3).f0), .int .i64 ((rd_T34 t598 x29_3).f1), .string ((rd_T34 t598 x29_3).f2), .string ((rd_T34 t598 x29_3).f3), .bool ((rd_T34 t598 x29_3).f4)] (0, 0) _ rfl (by (with_reducible repeat (first | refine bN ?_ _ | refine bD ?_ | refine bA ?_ _)); refine bP (cs := #[.int .i64 ((rd_T34 t598 x29_3).f0), .int .i64 ((rd_T34 t598 x29_3).f1), .string ((rd_T34 t598 x29_3).f2), .string ((rd_T34 t598 x29_3).f3), .bool x597004_3]) ?_ 4 _ rfl; (with_reducible repeat (first | refine bN ?_ _ | refine bD ?_ | refine bA ?_ _)); refine bP (cs := #[.int .i64 ((rd_T34 t598 x29_3).f0), .int .i64 ((rd_T34 t598 x29_3).f1), .string ((rd_T34 t598 x29_3).f2), .string x597003_3, .bool x597004_3]) ?_ 3 _ rfl; (with_reducible repeat (first | refine bN ?_ _ | refine bD ?_ | refine bA ?_ _)); refine bP (cs := #[.int .i64 ((rd_T34 t598 x29_3).f0), .int .i64 ((rd_T34 t598 x29_3).f1), .string x597002_3, .string x597003_3, .bool x597004_3]) ?_ 2 _ rfl; (with_reducible repeat (first | refine bN ?_ _ | refine bD ?_ | refine bA ?_ _)); refine bP (cs := #[.int .i64 ((rd_T34 t598 x29_3).f0), .int .i64 x597001_3, .string x597002_3, .string x597003_3, .bool x597004_3]) ?_ 1 _ rfl; (with_reducible repeat (first | refine bN ?_ _ | refine bD ?_ | refine bA ?_ _)); refine bP (cs := #[.int .i64 x597000_3, .int .i64 x597001_3, .string x597002_3, .string x597003_3, .bool x597004_3]) ?_ 0 _ rfl; (with_reducible repeat (first | refine bN ?_ _ | refine bD ?_ | refine bA ?_ _)); exact BK596.out) Try.underlying34 rfl (by kernel_rfl)) rfl ?_
                          exact ⟨by first | rfl | (simp [*, eN, eS] <;> rfl) | (simp [eN, eS]; generalize ByteArray.toList _ = l_; cases l_ <;> rfl), by repeat (first | (with_reducible first | exact HB.out | apply vA | apply vN | apply vD | refine vS ?_ GE596.out | refine vS ?_ GE603.out) | exact HB.out)⟩
                        · replace c19 := Bool.eq_false_iff.mpr c19
                          subst c19
                          have H1 : (index_Find_first.l0 k3 a2 t598 (t598.length : Int) (wrap64 (x29_3 + 1))) = some (r1, r2, r3, r4, r5, r6) := by rw [if_neg (show ¬ (false = true) by decide)] at H; exact H
                          clear H
                          have H := H1
                          clear H1
                          have H' := Aside0.mk H
                          clear H
                          have p602 : 0 ≤ (x29_3 : Int) := of_decide_eq_true (by first | (with_reducible assumption) | assumption)
                          have q602 : x29_3 < (t598.length : Int) := of_decide_eq_true (by first | (with_reducible assumption) | assumption)
                          obtain ⟨ad602, e602, hx602_0, hx602_1, hx602_2, hx602_3, hx602_4⟩ := at_T34 (Kd.R_reads' HO_27.out).2.2 x29_3 p602 q602
                          cases e602
                          replace p602 := eq_true p602
                          replace q602 := eq_true q602
                          go_wp2_with (first | ((with_reducible refine gate_dst (N := 11) rfl ?_); (try (refine gate_guard (by rfl) ?_; dsimp only)); refine box_event ?hg (N := 11) ?hd (cs := #[.int .i64 0, .int .i64 0, .string (⟨#[]⟩ : ByteArray), .string (⟨#[]⟩ : ByteArray), .bool false]) (t := 34) ?hr ?_; (case hd => rfl); (case hg => rfl); (case hr => first | (go_simp; done) | (go_simp; rfl)); intro gb603 hg w26 hbox hb; have n0_ := Aside0.mk (Kd.RB (Kd.R_elderB (by (with_reducible repeat (first | apply Kd.RA | apply Kd.RN | apply Kd.RD)); exact HO_27.out) gb603 (Nat.le_of_eq hg.symm)) hb); have n1_ := Aside0.mk (bB (g := gb596) (o := .cells #[.int .i64 x597000_3, .int .i64 x597001_3, .string x597002_3, .string x597003_3, .bool x597004_3] 34 (0, 0)) (by (with_reducible repeat (first | refine bN ?_ _ | refine bD ?_ | refine bA ?_ _)); exact BK596.out) hb); have n2_ := Aside0.mk (vT (by repeat (first | (with_reducible first | exact HB.out | apply vA | apply vN | apply vD | refine vS ?_ GE596.out) | exact HB.out)) hb); have n3_ := Aside0.mk (hbox); have n4_ := Aside0.mk ((by rw [hg]; exact (vZ (by repeat (first | (with_reducible first | exact HB.out | apply vA | apply vN | apply vD | refine vS ?_ GE596.out) | exact HB.out))) : w.heap.size ≤ gb603)); have n5_ := Aside0.mk ((by rw [hg]; exact (vZ (by repeat (first | (with_reducible first | exact HB.out | apply vA | apply vN | apply vD | refine vS ?_ GE596.out) | exact HB.out))) : w.heap.size ≤ gb603)); have n6_ := Aside0.mk ((by rw [hg]; exact Nat.ne_of_lt (blk_lt (g := gb596) (o := .cells #[.int .i64 x597000_3, .int .i64 x597001_3, .string x597002_3, .string x597003_3, .bool x597004_3] 34 (0, 0)) (by (with_reducible repeat (first | refine bN ?_ _ | refine bD ?_ | refine bA ?_ _)); exact BK596.out)) : gb596 ≠ gb603)); have n7_ := Aside0.mk ((by rw [hg]; exact Nat.ne_of_gt (blk_lt (g := gb596) (o := .cells #[.int .i64 x597000_3, .int .i64 x597001_3, .string x597002_3, .string x597003_3, .bool x597004_3] 34 (0, 0)) (by (with_reducible repeat (first | refine bN ?_ _ | refine bD ?_ | refine bA ?_ _)); exact BK596.out)) : gb603 ≠ gb596)); clear HO_27; clear BK596; clear HB; have HO_27 := n0_; have BK596 := n1_; have HB := n2_; have BK603 := n3_; have GW603 := n4_; have GE603 := n5_; have NB596_603 := n6_; have NB603_596 := n7_; clear n0_ n1_ n2_ n3_ n4_ n5_ n6_ n7_; clear hb hbox hg; have hnb27 := NB603_596.out; have hnc27 := NB596_603.out; have hcz28_0 : w26.cell? ⟨gb603, 0, none⟩ = some (.int .i64 0) := (bC BK603.out 0).trans rfl; have hcz28_1 : w26.cell? ⟨gb603, 1, none⟩ = some (.int .i64 0) := (bC BK603.out 1).trans rfl; have hcz28_2 : w26.cell? ⟨gb603, 2, none⟩ = some (.string (⟨#[]⟩ : ByteArray)) := (bC BK603.out 2).trans rfl; have hcz28_3 : w26.cell? ⟨gb603, 3, none⟩ = some (.string (⟨#[]⟩ : ByteArray)) := (bC BK603.out 3).trans rfl; have hcz28_4 : w26.cell? ⟨gb603, 4, none⟩ = some (.bool false) := (bC BK603.out 4).trans rfl; have hfz28_0 := bF BK603.out 0; have hfz28_1 := bF BK603.out 1; have hfz28_2 := bF BK603.out 2; have hfz28_3 := bF BK603.out 3; have hfz28_4 := bF BK603.out 4) | (go_at_call 47; (with_reducible refine (index_Find_1.calls ((rd_T34 t598 x29_3).f0) ((rd_T34 t598 x29_3).f1) ((rd_T34 t598 x29_3).f2) ((rd_T34 t598 x29_3).f3) ((rd_T34 t598 x29_3).f4) a2 false _ A18.out Bc ?sideC).mono ?_); (case sideC => exact ((show Below w.heap.size w _ from by repeat (first | (with_reducible first | exact HB.out | apply vA | apply vN | apply vD | refine vS ?_ GE596.out | refine vS ?_ GE603.out) | exact HB.out)).cell hltC).trans HBC.out); rintro e w29 ⟨rfl, hb⟩; have n0_ := Aside0.mk (Kd.RB (by (with_reducible repeat (first | apply Kd.RA | apply Kd.RN | apply Kd.RD)); exact (Kd.RM (Kd.RF (p := ⟨gb603, 4, none⟩) (Kd.RF (p := ⟨gb603, 3, none⟩) (Kd.RF (p := ⟨gb603, 2, none⟩) (Kd.RF (p := ⟨gb603, 1, none⟩) (Kd.RF (p := ⟨gb603, 0, none⟩) (Kd.RM HO_27.out (fun k_ hk => (⟨hk, hk.2⟩ : _ ∧ k_ ≠ gb603))) (fun _ hk => hk.2) (.int .i64 ((rd_T34 t598 x29_3).f0))) (fun _ hk => hk.2) (.int .i64 ((rd_T34 t598 x29_3).f1))) (fun _ hk => hk.2) (.string ((rd_T34 t598 x29_3).f2))) (fun _ hk => hk.2) (.string ((rd_T34 t598 x29_3).f3))) (fun _ hk => hk.2) (.bool ((rd_T34 t598 x29_3).f4))) (fun _ h_ => h_.1))) hb); have n1_ := Aside0.mk (bB (g := gb596) (o := .cells #[.int .i64 x597000_3, .int .i64 x597001_3, .string x597002_3, .string x597003_3, .bool x597004_3] 34 (0, 0)) (by (with_reducible repeat (first | refine bN ?_ _ | refine bD ?_ | refine bA ?_ _)); refine bR ?_ NB596_603.out _; (with_reducible repeat (first | refine bN ?_ _ | refine bD ?_ | refine bA ?_ _)); refine bR ?_ NB596_603.out _; (with_reducible repeat (first | refine bN ?_ _ | refine bD ?_ | refine bA ?_ _)); refine bR ?_ NB596_603.out _; (with_reducible repeat (first | refine bN ?_ _ | refine bD ?_ | refine bA ?_ _)); refine bR ?_ NB596_603.out _; (with_reducible repeat (first | refine bN ?_ _ | refine bD ?_ | refine bA ?_ _)); refine bR ?_ NB596_603.out _; (with_reducible repeat (first | refine bN ?_ _ | refine bD ?_ | refine bA ?_ _)); exact BK596.out) hb); have n2_ := Aside0.mk (bB (g := gb603) (o := .cells #[.int .i64 ((rd_T34 t598 x29_3).f0), .int .i64 ((rd_T34 t598 x29_3).f1), .string ((rd_T34 t598 x29_3).f2), .string ((rd_T34 t598 x29_3).f3), .bool ((rd_T34 t598 x29_3).f4)] 34 (0, 0)) (by (with_reducible repeat (first | refine bN ?_ _ | refine bD ?_ | refine bA ?_ _)); refine bP (cs := #[.int .i64 ((rd_T34 t598 x29_3).f0), .int .i64 ((rd_T34 t598 x29_3).f1), .string ((rd_T34 t598 x29_3).f2), .string ((rd_T34 t598 x29_3).f3), .bool false]) ?_ 4 _ rfl; (with_reducible repeat (first | refine bN ?_ _ | refine bD ?_ | refine bA ?_ _)); refine bP (cs := #[.int .i64 ((rd_T34 t598 x29_3).f0), .int .i64 ((rd_T34 t598 x29_3).f1), .string ((rd_T34 t598 x29_3).f2), .string (⟨#[]⟩ : ByteArray), .bool false]) ?_ 3 _ rfl; (with_reducible repeat (first | refine bN ?_ _ | refine bD ?_ | refine bA ?_ _)); refine bP (cs := #[.int .i64 ((rd_T34 t598 x29_3).f0), .int .i64 ((rd_T34 t598 x29_3).f1), .string (⟨#[]⟩ : ByteArray), .string (⟨#[]⟩ : ByteArray), .bool false]) ?_ 2 _ rfl; (with_reducible repeat (first | refine bN ?_ _ | refine bD ?_ | refine bA ?_ _)); refine bP (cs := #[.int .i64 ((rd_T34 t598 x29_3).f0), .int .i64 0, .string (⟨#[]⟩ : ByteArray), .string (⟨#[]⟩ : ByteArray), .bool false]) ?_ 1 _ rfl; (with_reducible repeat (first | refine bN ?_ _ | refine bD ?_ | refine bA ?_ _)); refine bP (cs := #[.int .i64 0, .int .i64 0, .string (⟨#[]⟩ : ByteArray), .string (⟨#[]⟩ : ByteArray), .bool false]) ?_ 0 _ rfl; (with_reducible repeat (first | refine bN ?_ _ | refine bD ?_ | refine bA ?_ _)); exact BK603.out) hb); have n3_ := Aside0.mk (vT (by repeat (first | (with_reducible first | exact HB.out | apply vA | apply vN | apply vD | refine vS ?_ GE596.out | refine vS ?_ GE603.out) | exact HB.out)) hb); clear HO_27; clear BK596; clear BK603; clear HB; have HO_27 := n0_; have BK596 := n1_; have BK603 := n2_; have HB := n3_; clear n0_ n1_ n2_ n3_; (try clear hb); (try clear hb2); (try clear hk); (try clear hi)))
                          go_roundg k3
                          case measure => have := HJ3.out; have := HJ6.out; have := HK3.out; omega
                          case rel => exact ⟨(wrap64 (x29_3 + 1)), (x597000_3), (x597001_3), (x597002_3), (x597003_3), (x597004_3), (by first | rfl | (simp; done) | (simp [*]; done)), H', ⟨by have := HJ3.out; have := HJ6.out; have := HK3.out; omega⟩, ⟨by (with_reducible repeat (first | apply Kd.RA | apply Kd.RN | apply Kd.RD)); exact Kd.RM HO_27.out (fun _ hk => hk.1)⟩, ⟨by (with_reducible repeat (first | refine bN ?_ _ | refine bD ?_ | refine bA ?_ _)); exact BK596.out⟩, ⟨by repeat (first | (with_reducible first | exact HB.out | apply vA | apply vN | apply vD | refine vS ?_ GE596.out | refine vS ?_ GE603.out) | exact HB.out)⟩⟩
                      · rw [if_neg c17] at H
                        exact absurd H (by simp)
                    · rw [if_neg c16] at H
                      exact absurd H (by simp)
                  · rw [if_neg c15] at H
                    have c15b0 : decide (x29_3 < (t598.length : Int)) = false := decide_eq_false c15
                    clear c15
                    simp only [Option.some.injEq, Prod.mk.injEq] at H
                    obtain ⟨rfl, rfl, rfl, rfl, rfl, rfl⟩ := H
                    have hcz30_0 : wr.cell? ⟨gb596, 0, none⟩ = some (.int .i64 x597000_3) := (bC BK596.out 0).trans rfl
                    have hcz30_1 : wr.cell? ⟨gb596, 1, none⟩ = some (.int .i64 x597001_3) := (bC BK596.out 1).trans rfl
                    have hcz30_2 : wr.cell? ⟨gb596, 2, none⟩ = some (.string x597002_3) := (bC BK596.out 2).trans rfl
                    have hcz30_3 : wr.cell? ⟨gb596, 3, none⟩ = some (.string x597003_3) := (bC BK596.out 3).trans rfl
                    have hcz30_4 : wr.cell? ⟨gb596, 4, none⟩ = some (.bool x597004_3) := (bC BK596.out 4).trans rfl
                    have hfz30_0 := bF BK596.out 0
                    have hfz30_1 := bF BK596.out 1
                    have hfz30_2 := bF BK596.out 2
                    have hfz30_3 := bF BK596.out 3
                    have hfz30_4 := bF BK596.out 4
                    go_wp2
                    refine bodyPost_ret (results_ct rfl _ _ gb596 34 #[.int .i64 0, .int .i64 0, .string (⟨#[]⟩ : ByteArray), .string (⟨#[]⟩ : ByteArray), .bool false] (0, 0) _ rfl (by (with_reducible repeat (first | refine bN ?_ _ | refine bD ?_ | refine bA ?_ _)); refine bP (cs := #[.int .i64 0, .int .i64 0, .string (⟨#[]⟩ : ByteArray), .string (⟨#[]⟩ : ByteArray), .bool x597004_3]) ?_ 4 _ rfl; (with_reducible repeat (first | refine bN ?_ _ | refine bD ?_ | refine bA ?_ _)); refine bP (cs := #[.int .i64 0, .int .i64 0, .string (⟨#[]⟩ : ByteArray), .string x597003_3, .bool x597004_3]) ?_ 3 _ rfl; (with_reducible repeat (first | refine bN ?_ _ | refine bD ?_ | refine bA ?_ _)); refine bP (cs := #[.int .i64 0, .int .i64 0, .string x597002_3, .string x597003_3, .bool x597004_3]) ?_ 2 _ rfl; (with_reducible repeat (first | refine bN ?_ _ | refine bD ?_ | refine bA ?_ _)); refine bP (cs := #[.int .i64 0, .int .i64 x597001_3, .string x597002_3, .string x597003_3, .bool x597004_3]) ?_ 1 _ rfl; (with_reducible repeat (first | refine bN ?_ _ | refine bD ?_ | refine bA ?_ _)); refine bP (cs := #[.int .i64 x597000_3, .int .i64 x597001_3, .string x597002_3, .string x597003_3, .bool x597004_3]) ?_ 0 _ rfl; (with_reducible repeat (first | refine bN ?_ _ | refine bD ?_ | refine bA ?_ _)); exact BK596.out) Try.underlying34 rfl (by kernel_rfl)) rfl ?_
                    exact ⟨by first | rfl | (simp [*, eN, eS] <;> rfl) | (simp [eN, eS]; generalize ByteArray.toList _ = l_; cases l_ <;> rfl), by repeat (first | (with_reducible first | exact HB.out | apply vA | apply vN | apply vD | refine vS ?_ GE596.out) | exact HB.out)⟩
            · rw [if_neg c10] at H
              exact absurd H (by simp)
          · rw [if_neg c9] at H
            exact absurd H (by simp)

def index_Find.f (k : Nat) (l0 : List Int) (l1 : List (S36)) (a2 : Int) : Option (Int × Int × ByteArray × ByteArray × Bool × Bool) := (index_Seek.f l1 a2).bind fun t => index_Find_first.f k l0 t a2
theorem index_Find.mono : ∀ a0 a1 a2 k, LeO (index_Find.f k a0 a1 a2) (index_Find.f (k + 1) a0 a1 a2) := by
  intro a0 a1 a2 k
  unfold index_Find.f
  exact LeO.bind (LeO.refl _) (fun _ => index_Find_first.mono _ _ _ _)
set_option maxHeartbeats 8000000 in
set_option maxRecDepth 100000 in
theorem index_Find.calls (k : Nat) (A0 : Option Addr) (c0 : Nat) (l0 : List Int) (A1 : Option Addr) (c1 : Nat) (l1 : List (S36)) (a2 : Int) (r1 : Int) (r2 : Int) (r3 : ByteArray) (r4 : ByteArray) (r5 : Bool) (r6 : Bool) (w : World) (hr0 : Kd.C (Kd.int .u8) w A0 l0.length l0) (hc0 : l0.length ≤ c0) (hr1 : Kd.C k36 w A1 l1.length l1) (hc1 : l1.length ≤ c1) (h : index_Find.f k l0 l1 a2 = some (r1, r2, r3, r4, r5, r6)) :
    Calls Try.prog 28 #[.slice A0 l0.length c0, .slice A1 l1.length c1, .int .i64 a2] w fun e w' => e = .returned (.tuple #[.agg #[.int .i64 r1, .int .i64 r2, .string r3, .string r4, .bool r5], .bool r6]) ∧ Below w.heap.size w w' := by
  have hu34 := Try.underlying34
  have H := Option.bind_eq_some_iff.mp h
  clear h
  obtain ⟨t, A10, A20⟩ := H
  have A1_ := Aside0.mk A10
  have A2_ := Aside0.mk A20
  have HR0 := Aside0.mk hr0
  have HC0 := Aside0.mk hc0
  have HR1 := Aside0.mk hr1
  have HC1 := Aside0.mk hc1
  clear hr0 hc0 hr1 hc1 A10 A20
  have hmf : ∀ (fn : Fn) (first cap : Array Value) (w : World), (Instr.makeFunc fn first cap).run Try.prog w = .ok (.func fn first cap) w := fun _ _ _ _ => rfl
  have HBa := Aside0.mk (vA (Below.refl w.heap.size w) (.cells #[.int .i64 a2] 3))
  have BKa := Aside0.mk (blk_new w (.cells #[.int .i64 a2] 3))
  go_enter Try.func28, Try.ntmps28
  go_wp2_with (first
    | ((with_reducible refine gate_dst (N := 6) rfl ?_); (try (refine gate_guard (by rfl) ?_; dsimp only)); refine box_event ?hg (N := 6) ?hd (cs := #[.int .i64 0, .int .i64 0, .string (⟨#[]⟩ : ByteArray), .string (⟨#[]⟩ : ByteArray), .bool false]) (t := 34) ?hr ?_; (case hd => rfl); (case hg => rfl); (case hr => first | (go_simp; done) | (go_simp; rfl)); intro gb2 hg2 w2 hbox2 hb2; have HBb := Aside0.mk (vT HBa.out hb2); have BKb := Aside0.mk (bB (g := w.heap.size) (o := .cells #[.int .i64 a2] 3 (0, 0)) BKa.out hb2); have BKr := Aside0.mk hbox2; have GEr := Aside0.mk (show w.heap.size ≤ gb2 from by rw [hg2]; exact vZ HBa.out); have hc2 : w2.cell? ⟨w.heap.size, 0, none⟩ = some (.int .i64 a2) := (bC BKb.out 0).trans rfl; clear hbox2 hb2 hg2)
    | (go_at_call 32; (with_reducible refine (index_Seek.calls A1 c1 l1 a2 t _ ?side1 HC1.out A1_.out).mono ?_); (case side1 => exact Kd.C_below HR1.out HBb.out); rintro e w3 ⟨rfl, hb3⟩; have HBc := Aside0.mk (vT HBb.out hb3); have BKc := Aside0.mk (bB (g := w.heap.size) (o := .cells #[.int .i64 a2] 3 (0, 0)) BKb.out hb3); have BKs := Aside0.mk (bB (g := gb2) (o := .cells #[.int .i64 0, .int .i64 0, .string (⟨#[]⟩ : ByteArray), .string (⟨#[]⟩ : ByteArray), .bool false] 34 (0, 0)) BKr.out hb3); clear hb3)
    | (go_at_call 46; (with_reducible refine (index_Find_first.calls k A0 c0 l0 t a2 r1 r2 r3 r4 r5 r6 _ ?side2 HC0.out w.heap.size ?side3 A2_.out).mono ?_); (case side2 => exact Kd.C_below HR0.out HBc.out); (case side3 => exact (bC BKc.out 0).trans rfl); rintro e w4 ⟨rfl, hb4⟩; have HBd := Aside0.mk (vT HBc.out hb4); have BKt := Aside0.mk (bB (g := gb2) (o := .cells #[.int .i64 0, .int .i64 0, .string (⟨#[]⟩ : ByteArray), .string (⟨#[]⟩ : ByteArray), .bool false] 34 (0, 0)) BKs.out hb4); clear hb4; have hcz_0 : w4.cell? ⟨gb2, 0, none⟩ = some (.int .i64 0) := (bC BKt.out 0).trans rfl; have hcz_1 : w4.cell? ⟨gb2, 1, none⟩ = some (.int .i64 0) := (bC BKt.out 1).trans rfl; have hcz_2 : w4.cell? ⟨gb2, 2, none⟩ = some (.string (⟨#[]⟩ : ByteArray)) := (bC BKt.out 2).trans rfl; have hcz_3 : w4.cell? ⟨gb2, 3, none⟩ = some (.string (⟨#[]⟩ : ByteArray)) := (bC BKt.out 3).trans rfl; have hcz_4 : w4.cell? ⟨gb2, 4, none⟩ = some (.bool false) := (bC BKt.out 4).trans rfl; have hfz_0 := bF BKt.out 0; have hfz_1 := bF BKt.out 1; have hfz_2 := bF BKt.out 2; have hfz_3 := bF BKt.out 3; have hfz_4 := bF BKt.out 4))
  refine bodyPost_ret (results_ct rfl _ _ gb2 34 #[.int .i64 r1, .int .i64 r2, .string r3, .string r4, .bool r5] (0, 0) _ rfl (by (with_reducible repeat (first | refine bN ?_ _ | refine bD ?_ | refine bA ?_ _)); refine bP (cs := #[.int .i64 r1, .int .i64 r2, .string r3, .string r4, .bool false]) ?_ 4 _ rfl; (with_reducible repeat (first | refine bN ?_ _ | refine bD ?_ | refine bA ?_ _)); refine bP (cs := #[.int .i64 r1, .int .i64 r2, .string r3, .string (⟨#[]⟩ : ByteArray), .bool false]) ?_ 3 _ rfl; (with_reducible repeat (first | refine bN ?_ _ | refine bD ?_ | refine bA ?_ _)); refine bP (cs := #[.int .i64 r1, .int .i64 r2, .string (⟨#[]⟩ : ByteArray), .string (⟨#[]⟩ : ByteArray), .bool false]) ?_ 2 _ rfl; (with_reducible repeat (first | refine bN ?_ _ | refine bD ?_ | refine bA ?_ _)); refine bP (cs := #[.int .i64 r1, .int .i64 0, .string (⟨#[]⟩ : ByteArray), .string (⟨#[]⟩ : ByteArray), .bool false]) ?_ 1 _ rfl; (with_reducible repeat (first | refine bN ?_ _ | refine bD ?_ | refine bA ?_ _)); refine bP (cs := #[.int .i64 0, .int .i64 0, .string (⟨#[]⟩ : ByteArray), .string (⟨#[]⟩ : ByteArray), .bool false]) ?_ 0 _ rfl; (with_reducible repeat (first | refine bN ?_ _ | refine bD ?_ | refine bA ?_ _));  exact BKt.out) Try.underlying34 rfl (by kernel_rfl)) rfl ?_
  exact ⟨rfl, by repeat (first | (with_reducible first | exact HBd.out | apply vA | apply vN | apply vD | refine vS ?_ GEr.out) | exact HBd.out)⟩

/-! ### index_SeekTime: function 34 -/
def index_SeekTime.p (a : Int) (m : S36) : Bool := decide (m.f1 < a)
theorem index_SeekTime_1.calls (x0 x1 x2 : Int) (B : Nat) (a : Int) (w : World) (hB : w.cell? ⟨B, 0, none⟩ = some (.int .i64 a)) :
    Calls Try.prog 52 #[.agg #[.int .i64 x0, .int .i64 x1, .int .i64 x2], .pointer (some ⟨B, 0, none⟩)] w fun e w' => e = .returned (.bool (decide (x1 < a))) ∧ Below w.heap.size w w' := by
  have hu36 := Try.underlying36
  have hlt := World.block_lt_of_cell? w _ hB
  go_enter Try.func52, Try.ntmps52
  go_wp2
  go_ret
  exact ⟨rfl, (Below.refl _ w).alloc (Nat.le_refl _) _⟩
set_option maxHeartbeats 8000000 in
set_option maxRecDepth 100000 in
theorem index_SeekTime.last (A0 : Option Addr) (c0 : Nat) (l0 : List S36) (B : Nat) (a r : Int) (w : World) (hr0 : Kd.C k36 w A0 l0.length l0) (hc0 : l0.length ≤ c0) (hB : w.cell? ⟨B, 0, none⟩ = some (.int .i64 a)) (hr : lastAt (index_SeekTime.p a) l0 l0.length = r) :
    Calls Try.prog 50 #[.slice A0 l0.length c0, .func (.func 52) #[] #[.pointer (some ⟨B, 0, none⟩)]] w fun e w' => e = .returned (.int .i64 r) ∧ Below w.heap.size w w' := by
  have hu36 := Try.underlying36
  have hmax : l0.length ≤ 9223372036854775807 := hr0.2.1
  have hlt := World.block_lt_of_cell? w _ hB
  have HR0 := Aside0.mk hr0
  have HC0 := Aside0.mk hc0
  have HC := Aside0.mk hB
  have HR := Aside0.mk hr
  clear hr0 hc0 hB hr
  have HB := Aside0.mk (Below.refl w.heap.size w)
  go_enter Try.func50, Try.ntmps50
  go_wp2
  go_loopg [5] l0.length (fun kq v5 w' => v5 = .int .i64 ((kq : Int) - 1) ∧ Aside0 (kq ≤ l0.length) ∧ Aside0 (lastAt (index_SeekTime.p a) l0 kq = r) ∧ Aside0 (Below w.heap.size w w'))
  case atStart => exact ⟨by first | rfl | (simp; done), ⟨Nat.le_refl _⟩, HR, HB⟩
  case round =>
    obtain ⟨rfl, HK, HA, HB⟩ := hrel
    cases gk with
    | zero =>
      have h0 := HA.out
      simp only [lastAt] at h0
      subst h0
      go_wp2
      go_ret
      exact ⟨rfl, HB.out⟩
    | succ k1 =>
      have e1 : (((k1 + 1 : Nat) : Int) - 1) = (k1 : Int) := by omega
      rw [e1]
      have hk1 := HK.out
      have p1 : (0 : Int) ≤ (k1 : Int) := by omega
      have q1 : (k1 : Int) < (l0.length : Int) := by omega
      have h0 := HA.out
      simp only [lastAt] at h0
      obtain ⟨ad, ead, hx0, hx1, hx2⟩ := at_T36 HR0.out (k1 : Int) p1 q1
      cases ead
      simp only [Int.toNat_natCast] at hx0 hx1 hx2
      generalize rd_T36 l0 (k1 : Int) = m at *
      obtain ⟨m0, m1, m2⟩ := m
      have hy2 := Aside0.mk hx2
      replace hx0 := (HB.out.cell (World.block_lt_of_cell? w _ hx0)).trans hx0
      replace hx1 := (HB.out.cell (World.block_lt_of_cell? w _ hx1)).trans hx1
      replace hx2 := (HB.out.cell (World.block_lt_of_cell? w _ hx2)).trans hx2
      by_cases ct : m1 < a
      · have ctd := decide_eq_true ct
        rw [if_pos (show index_SeekTime.p a ⟨m0, m1, m2⟩ = true from ctd)] at h0
        subst h0
        clear hk1 HK HA
        go_wp2_with (first | (go_at_call 52; (with_reducible refine (index_SeekTime_1.calls m0 m1 m2 B a _ ?side1).mono ?_); (case side1 => exact (HB.out.cell hlt).trans HC.out); rintro e w2 ⟨rfl, hb⟩; have HB2 := Aside0.mk (vT HB.out hb); (replace hx2 := (HB2.out.cell (World.block_lt_of_cell? w _ hy2.out)).trans hy2.out); clear hb; rw [ctd]))
        go_ret
        exact ⟨rfl, HB2.out⟩
      · have ctd := decide_eq_false ct
        rw [if_neg (show ¬ (index_SeekTime.p a ⟨m0, m1, m2⟩ = true) from fun c => ct (of_decide_eq_true c))] at h0
        have H0 := Aside0.mk h0
        have HK1 := Aside0.mk hk1
        clear h0 hk1 HK HA
        go_wp2_with (first | (go_at_call 52; (with_reducible refine (index_SeekTime_1.calls m0 m1 m2 B a _ ?side1).mono ?_); (case side1 => exact (HB.out.cell hlt).trans HC.out); rintro e w2 ⟨rfl, hb⟩; have HB2 := Aside0.mk (vT HB.out hb); clear hb; rw [ctd]))
        go_roundg k1
        case measure => omega
        case rel => exact ⟨by first | rfl | (simp; done), ⟨by have := HK1.out; omega⟩, H0, HB2⟩
def index_SeekTime.f (l0 : List (S36)) (a1 : Int) : Option (Int) := some (lastAt (index_SeekTime.p a1) l0 l0.length)
set_option maxHeartbeats 8000000 in
set_option maxRecDepth 100000 in
theorem index_SeekTime.calls (A0 : Option Addr) (c0 : Nat) (l0 : List (S36)) (a1 : Int) (r : Int) (w : World) (hr0 : Kd.C k36 w A0 l0.length l0) (hc0 : l0.length ≤ c0) (h : index_SeekTime.f l0 a1 = some r) :
    Calls Try.prog 34 #[.slice A0 l0.length c0, .int .i64 a1] w fun e w' => e = .returned (.int .i64 r) ∧ Below w.heap.size w w' := by
  have hr := Option.some.inj h
  have HR0 := Aside0.mk hr0
  have HC0 := Aside0.mk hc0
  have HR := Aside0.mk hr
  clear hr0 hc0 hr h
  have hmf : ∀ (fn : Fn) (first cap : Array Value) (w : World), (Instr.makeFunc fn first cap).run Try.prog w = .ok (.func fn first cap) w := fun _ _ _ _ => rfl
  have hB0 := Aside0.mk (vA (Below.refl w.heap.size w) (.cells #[.int .i64 a1] 3))
  go_enter Try.func34, Try.ntmps34
  go_wp2_with (first | (go_at_call 50; (with_reducible refine (index_SeekTime.last A0 c0 l0 w.heap.size a1 r (w.alloc (.cells #[.int .i64 a1] 3)) ?side1 HC0.out ?side2 HR.out).mono ?_); (case side1 => exact Kd.C_alloc HR0.out _); (case side2 => simp); rintro e w2 ⟨rfl, hb⟩; have HB2 := Aside0.mk (vT hB0.out hb); clear hb))
  go_ret
  exact ⟨rfl, HB2.out⟩


end Go.Proofs.Ytphnolgneojdhaa.V

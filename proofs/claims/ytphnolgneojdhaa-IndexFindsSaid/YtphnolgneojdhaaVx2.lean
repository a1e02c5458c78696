-- printed by a program of this session (a changed copy of the kit's printer; squeeze.py)
import Derived.Test.YtphnolgneojdhaaVx0
import Derived.Test.YtphnolgneojdhaaVx1
namespace Go.Proofs.Ytphnolgneojdhaa.V
open Go.RowKit Go.Proofs.YtphnolgneojdhaaW.PrintWords Go.Proofs.YtphnolgneojdhaaW.PrintLast Go.Proofs.YtphnolgneojdhaaW.PrintMore
attribute [local go_sem] max2_int min2_int max_two min_two max_three min_three max_four min_four   -- for this text's walks alone
set_option linter.unusedVariables false
set_option linter.unusedSimpArgs false
/-! ### record_Put: function 44 -/
def record_Put.f (k : Nat) (l0 : List Int) (a1_0 : Int) (a1_1 : Int) (a1_2 : ByteArray) (a1_3 : ByteArray) (a1_4 : Bool) : Option (List Int) := if ([] : List Int).length + l0.length < 140737488355328 then ((some (([] : List Int) ++ l0 : List Int)).bind fun y130 => ((record_Right.f a1_0 a1_1 a1_2 a1_3 a1_4).bind fun t133 => (if t133 = true then ((varint_Put.f k y130 (IntKind.u64.wrap (a1_0))).bind fun t134 => ((varint_Fold.f a1_1).bind fun t137 => ((varint_Put.f k t134 t137).bind fun t138 => (if a1_4 = true then (if t138.length < 140737488355328 then ((varint_Put.f k (t138 ++ [1]) (IntKind.u64.wrap ((a1_2.size : Int)))).bind fun t144 => (if t144.length + a1_2.size < 140737488355328 then ((varint_Put.f k (t144 ++ bytesOf a1_2) (IntKind.u64.wrap ((a1_3.size : Int)))).bind fun t150 => (if t150.length + a1_3.size < 140737488355328 then (some (t150 ++ bytesOf a1_3)) else (none))) else (none))) else (none)) else (if t138.length < 140737488355328 then ((varint_Put.f k (t138 ++ [0]) (IntKind.u64.wrap ((a1_2.size : Int)))).bind fun t159 => (if t159.length + a1_2.size < 140737488355328 then ((varint_Put.f k (t159 ++ bytesOf a1_2) (IntKind.u64.wrap ((a1_3.size : Int)))).bind fun t165 => (if t165.length + a1_3.size < 140737488355328 then (some (t165 ++ bytesOf a1_3)) else (none))) else (none))) else (none)))))) else (some y130)))) else (none)
theorem record_Put.mono : ∀ a0 a1 a2 a3 a4 a5 k, LeO (record_Put.f k a0 a1 a2 a3 a4 a5) (record_Put.f (k + 1) a0 a1 a2 a3 a4 a5) := by
  intro a0 a1 a2 a3 a4 a5 k
  unfold record_Put.f
  repeat' first
      | (with_reducible exact LeO.refl _)
      | (with_reducible exact LeO.none _)
      | (with_reducible refine LeO.ite ?_ ?_)
      | (with_reducible refine LeO.bind ?_ (fun _ => ?_))
      | exact varint_Put.mono _ _ _
      | exact LeO.none _
      | refine LeO.ite ?_ ?_
      | refine LeO.bind ?_ (fun _ => ?_)
def record_Put.T10 : Bool × List (List Nat × List Nat) := (true, [([], []), ([], []), ([1], [1]), ([2], [2]), ([3], [3]), ([0, 4], [0, 4]), ([], []), ([6], [6]), ([5, 7, 5], [5, 7]), ([8, 8, 0, 1, 2, 3, 4, 5, 6, 7, 8], [0, 8])])
def record_Put.B10 : List Nat := [0, 0, 2, 6, 14, 31, 0, 64, 255, 511]
theorem record_Put.tab10 : rtab .any (opsOf Try.f44 10) = record_Put.T10 := by kernel_rfl
theorem record_Put.bits10 : waitsOk record_Put.T10.2 record_Put.B10 = true := by kernel_rfl
def record_Put.T11 : Bool × List (List Nat × List Nat) := (true, [([], []), ([], []), ([1], [1]), ([2], [2]), ([3], [3]), ([0, 4], [0, 4]), ([], []), ([6], [6]), ([5, 7, 5], [5, 7]), ([8, 8, 0, 1, 2, 3, 4, 5, 6, 7, 8], [8])])
def record_Put.B11 : List Nat := [0, 0, 2, 6, 14, 31, 0, 64, 255, 511]
theorem record_Put.tab11 : rtab .any (opsOf Try.f44 11) = record_Put.T11 := by kernel_rfl
theorem record_Put.bits11 : waitsOk record_Put.T11.2 record_Put.B11 = true := by kernel_rfl
set_option maxHeartbeats 8000000 in
set_option maxRecDepth 100000 in
theorem record_Put.calls (k : Nat) (A0 : Option Addr) (c0 : Nat) (l0 : List Int) (a1_0 : Int) (a1_1 : Int) (a1_2 : ByteArray) (a1_3 : ByteArray) (a1_4 : Bool) (r : List Int) (w : World) (hr0 : Kd.C (Kd.int .u8) w A0 l0.length l0) (hc0 : l0.length ≤ c0) (h : record_Put.f k l0 a1_0 a1_1 a1_2 a1_3 a1_4 = some r) :
    Calls Try.prog 44 #[.slice A0 l0.length c0, .agg #[.int .i64 a1_0, .int .i64 a1_1, .string a1_2, .string a1_3, .bool a1_4]] w fun e w' => ∃ v0_ : Value, e = .returned (v0_) ∧ Kd.R (Kd.int .u8) 5 w' w.heap.size (fun _ => True) v0_ r ∧ Below w.heap.size w w' := by
  have hu34 := Try.underlying34
  have HR0 := Aside0.mk hr0
  have HC0 := Aside0.mk hc0
  clear hr0 hc0
  have HB := Aside0.mk (Below.refl w.heap.size w)
  have H : (if ([] : List Int).length + l0.length < 140737488355328 then ((some (([] : List Int) ++ l0 : List Int)).bind fun y130 => ((record_Right.f a1_0 a1_1 a1_2 a1_3 a1_4).bind fun t133 => (if t133 = true then ((varint_Put.f k y130 (IntKind.u64.wrap (a1_0))).bind fun t134 => ((varint_Fold.f a1_1).bind fun t137 => ((varint_Put.f k t134 t137).bind fun t138 => (if a1_4 = true then (if t138.length < 140737488355328 then ((varint_Put.f k (t138 ++ [1]) (IntKind.u64.wrap ((a1_2.size : Int)))).bind fun t144 => (if t144.length + a1_2.size < 140737488355328 then ((varint_Put.f k (t144 ++ bytesOf a1_2) (IntKind.u64.wrap ((a1_3.size : Int)))).bind fun t150 => (if t150.length + a1_3.size < 140737488355328 then (some (t150 ++ bytesOf a1_3)) else (none))) else (none))) else (none)) else (if t138.length < 140737488355328 then ((varint_Put.f k (t138 ++ [0]) (IntKind.u64.wrap ((a1_2.size : Int)))).bind fun t159 => (if t159.length + a1_2.size < 140737488355328 then ((varint_Put.f k (t159 ++ bytesOf a1_2) (IntKind.u64.wrap ((a1_3.size : Int)))).bind fun t165 => (if t165.length + a1_3.size < 140737488355328 then (some (t165 ++ bytesOf a1_3)) else (none))) else (none))) else (none)))))) else (some y130)))) else (none)) = some r := h
  clear h
  by_cases c3 : ([] : List Int).length + l0.length < 140737488355328
  · rw [if_pos c3] at H
    have LMc3 := Aside0.mk c3
    clear c3
    obtain ⟨y130, hy130⟩ : ∃ y_ : List Int, y_ = (([] : List Int) ++ l0) := ⟨_, rfl⟩
    replace H : ((record_Right.f a1_0 a1_1 a1_2 a1_3 a1_4).bind fun t133 => (if t133 = true then ((varint_Put.f k y130 (IntKind.u64.wrap (a1_0))).bind fun t134 => ((varint_Fold.f a1_1).bind fun t137 => ((varint_Put.f k t134 t137).bind fun t138 => (if a1_4 = true then (if t138.length < 140737488355328 then ((varint_Put.f k (t138 ++ [1]) (IntKind.u64.wrap ((a1_2.size : Int)))).bind fun t144 => (if t144.length + a1_2.size < 140737488355328 then ((varint_Put.f k (t144 ++ bytesOf a1_2) (IntKind.u64.wrap ((a1_3.size : Int)))).bind fun t150 => (if t150.length + a1_3.size < 140737488355328 then (some (t150 ++ bytesOf a1_3)) else (none))) else (none))) else (none)) else (if t138.length < 140737488355328 then ((varint_Put.f k (t138 ++ [0]) (IntKind.u64.wrap ((a1_2.size : Int)))).bind fun t159 => (if t159.length + a1_2.size < 140737488355328 then ((varint_Put.f k (t159 ++ bytesOf a1_2) (IntKind.u64.wrap ((a1_3.size : Int)))).bind fun t165 => (if t165.length + a1_3.size < 140737488355328 then (some (t165 ++ bytesOf a1_3)) else (none))) else (none))) else (none)))))) else (some y130))) = some r := by first | (rw [hy130]; with_reducible exact H) | (have H2_ := (Option.bind_some _ _).symm.trans H; rw [hy130]; with_reducible exact H2_) | (have H2_ := (Option.bind_some _ _).symm.trans H; with_reducible exact H2_) | with_reducible exact H | (rw [hy130]; exact H) | exact H
    have Ny130 := Aside0.mk hy130
    clear hy130
    replace H := Option.bind_eq_some_iff.mp H
    obtain ⟨t133, A40, H⟩ := H
    replace H : (if t133 = true then ((varint_Put.f k y130 (IntKind.u64.wrap (a1_0))).bind fun t134 => ((varint_Fold.f a1_1).bind fun t137 => ((varint_Put.f k t134 t137).bind fun t138 => (if a1_4 = true then (if t138.length < 140737488355328 then ((varint_Put.f k (t138 ++ [1]) (IntKind.u64.wrap ((a1_2.size : Int)))).bind fun t144 => (if t144.length + a1_2.size < 140737488355328 then ((varint_Put.f k (t144 ++ bytesOf a1_2) (IntKind.u64.wrap ((a1_3.size : Int)))).bind fun t150 => (if t150.length + a1_3.size < 140737488355328 then (some (t150 ++ bytesOf a1_3)) else (none))) else (none))) else (none)) else (if t138.length < 140737488355328 then ((varint_Put.f k (t138 ++ [0]) (IntKind.u64.wrap ((a1_2.size : Int)))).bind fun t159 => (if t159.length + a1_2.size < 140737488355328 then ((varint_Put.f k (t159 ++ bytesOf a1_2) (IntKind.u64.wrap ((a1_3.size : Int)))).bind fun t165 => (if t165.length + a1_3.size < 140737488355328 then (some (t165 ++ bytesOf a1_3)) else (none))) else (none))) else (none)))))) else (some y130)) = some r := H
    have A4 := Aside0.mk A40
    clear A40
    by_cases c5 : t133 = true
    · subst c5
      have H1 : ((varint_Put.f k y130 (IntKind.u64.wrap (a1_0))).bind fun t134 => ((varint_Fold.f a1_1).bind fun t137 => ((varint_Put.f k t134 t137).bind fun t138 => (if a1_4 = true then (if t138.length < 140737488355328 then ((varint_Put.f k (t138 ++ [1]) (IntKind.u64.wrap ((a1_2.size : Int)))).bind fun t144 => (if t144.length + a1_2.size < 140737488355328 then ((varint_Put.f k (t144 ++ bytesOf a1_2) (IntKind.u64.wrap ((a1_3.size : Int)))).bind fun t150 => (if t150.length + a1_3.size < 140737488355328 then (some (t150 ++ bytesOf a1_3)) else (none))) else (none))) else (none)) else (if t138.length < 140737488355328 then ((varint_Put.f k (t138 ++ [0]) (IntKind.u64.wrap ((a1_2.size : Int)))).bind fun t159 => (if t159.length + a1_2.size < 140737488355328 then ((varint_Put.f k (t159 ++ bytesOf a1_2) (IntKind.u64.wrap ((a1_3.size : Int)))).bind fun t165 => (if t165.length + a1_3.size < 140737488355328 then (some (t165 ++ bytesOf a1_3)) else (none))) else (none))) else (none)))))) = some r := by rw [if_pos rfl] at H; exact H
      clear H
      have H := H1
      clear H1
      replace H := Option.bind_eq_some_iff.mp H
      obtain ⟨t134, A60, H⟩ := H
      replace H : ((varint_Fold.f a1_1).bind fun t137 => ((varint_Put.f k t134 t137).bind fun t138 => (if a1_4 = true then (if t138.length < 140737488355328 then ((varint_Put.f k (t138 ++ [1]) (IntKind.u64.wrap ((a1_2.size : Int)))).bind fun t144 => (if t144.length + a1_2.size < 140737488355328 then ((varint_Put.f k (t144 ++ bytesOf a1_2) (IntKind.u64.wrap ((a1_3.size : Int)))).bind fun t150 => (if t150.length + a1_3.size < 140737488355328 then (some (t150 ++ bytesOf a1_3)) else (none))) else (none))) else (none)) else (if t138.length < 140737488355328 then ((varint_Put.f k (t138 ++ [0]) (IntKind.u64.wrap ((a1_2.size : Int)))).bind fun t159 => (if t159.length + a1_2.size < 140737488355328 then ((varint_Put.f k (t159 ++ bytesOf a1_2) (IntKind.u64.wrap ((a1_3.size : Int)))).bind fun t165 => (if t165.length + a1_3.size < 140737488355328 then (some (t165 ++ bytesOf a1_3)) else (none))) else (none))) else (none))))) = some r := H
      have A6 := Aside0.mk A60
      clear A60
      replace H := Option.bind_eq_some_iff.mp H
      obtain ⟨t137, A70, H⟩ := H
      replace H : ((varint_Put.f k t134 t137).bind fun t138 => (if a1_4 = true then (if t138.length < 140737488355328 then ((varint_Put.f k (t138 ++ [1]) (IntKind.u64.wrap ((a1_2.size : Int)))).bind fun t144 => (if t144.length + a1_2.size < 140737488355328 then ((varint_Put.f k (t144 ++ bytesOf a1_2) (IntKind.u64.wrap ((a1_3.size : Int)))).bind fun t150 => (if t150.length + a1_3.size < 140737488355328 then (some (t150 ++ bytesOf a1_3)) else (none))) else (none))) else (none)) else (if t138.length < 140737488355328 then ((varint_Put.f k (t138 ++ [0]) (IntKind.u64.wrap ((a1_2.size : Int)))).bind fun t159 => (if t159.length + a1_2.size < 140737488355328 then ((varint_Put.f k (t159 ++ bytesOf a1_2) (IntKind.u64.wrap ((a1_3.size : Int)))).bind fun t165 => (if t165.length + a1_3.size < 140737488355328 then (some (t165 ++ bytesOf a1_3)) else (none))) else (none))) else (none)))) = some r := H
      have A7 := Aside0.mk A70
      clear A70
      replace H := Option.bind_eq_some_iff.mp H
      obtain ⟨t138, A80, H⟩ := H
      replace H : (if a1_4 = true then (if t138.length < 140737488355328 then ((varint_Put.f k (t138 ++ [1]) (IntKind.u64.wrap ((a1_2.size : Int)))).bind fun t144 => (if t144.length + a1_2.size < 140737488355328 then ((varint_Put.f k (t144 ++ bytesOf a1_2) (IntKind.u64.wrap ((a1_3.size : Int)))).bind fun t150 => (if t150.length + a1_3.size < 140737488355328 then (some (t150 ++ bytesOf a1_3)) else (none))) else (none))) else (none)) else (if t138.length < 140737488355328 then ((varint_Put.f k (t138 ++ [0]) (IntKind.u64.wrap ((a1_2.size : Int)))).bind fun t159 => (if t159.length + a1_2.size < 140737488355328 then ((varint_Put.f k (t159 ++ bytesOf a1_2) (IntKind.u64.wrap ((a1_3.size : Int)))).bind fun t165 => (if t165.length + a1_3.size < 140737488355328 then (some (t165 ++ bytesOf a1_3)) else (none))) else (none))) else (none))) = some r := H
      have A8 := Aside0.mk A80
      clear A80
      by_cases c9 : a1_4 = true
      · subst c9
        have H1 : (if t138.length < 140737488355328 then ((varint_Put.f k (t138 ++ [1]) (IntKind.u64.wrap ((a1_2.size : Int)))).bind fun t144 => (if t144.length + a1_2.size < 140737488355328 then ((varint_Put.f k (t144 ++ bytesOf a1_2) (IntKind.u64.wrap ((a1_3.size : Int)))).bind fun t150 => (if t150.length + a1_3.size < 140737488355328 then (some (t150 ++ bytesOf a1_3)) else (none))) else (none))) else (none)) = some r := by rw [if_pos rfl] at H; exact H
        clear H
        have H := H1
        clear H1
        by_cases c10 : t138.length < 140737488355328
        · rw [if_pos c10] at H
          have LMc10 := Aside0.mk c10
          clear c10
          obtain ⟨y141, hy141⟩ : ∃ y_ : List Int, y_ = (t138 ++ [1]) := ⟨_, rfl⟩
          replace H : ((varint_Put.f k y141 (IntKind.u64.wrap ((a1_2.size : Int)))).bind fun t144 => (if t144.length + a1_2.size < 140737488355328 then ((varint_Put.f k (t144 ++ bytesOf a1_2) (IntKind.u64.wrap ((a1_3.size : Int)))).bind fun t150 => (if t150.length + a1_3.size < 140737488355328 then (some (t150 ++ bytesOf a1_3)) else (none))) else (none))) = some r := by first | (rw [hy141]; with_reducible exact H) | (have H2_ := (Option.bind_some _ _).symm.trans H; rw [hy141]; with_reducible exact H2_) | (have H2_ := (Option.bind_some _ _).symm.trans H; with_reducible exact H2_) | with_reducible exact H | (rw [hy141]; exact H) | exact H
          have Ny141 := Aside0.mk hy141
          clear hy141
          replace H := Option.bind_eq_some_iff.mp H
          obtain ⟨t144, A110, H⟩ := H
          replace H : (if t144.length + a1_2.size < 140737488355328 then ((varint_Put.f k (t144 ++ bytesOf a1_2) (IntKind.u64.wrap ((a1_3.size : Int)))).bind fun t150 => (if t150.length + a1_3.size < 140737488355328 then (some (t150 ++ bytesOf a1_3)) else (none))) else (none)) = some r := H
          have A11 := Aside0.mk A110
          clear A110
          by_cases c12 : t144.length + a1_2.size < 140737488355328
          · rw [if_pos c12] at H
            have LMc12 := Aside0.mk c12
            clear c12
            obtain ⟨y147, hy147⟩ : ∃ y_ : List Int, y_ = (t144 ++ bytesOf a1_2) := ⟨_, rfl⟩
            replace H : ((varint_Put.f k y147 (IntKind.u64.wrap ((a1_3.size : Int)))).bind fun t150 => (if t150.length + a1_3.size < 140737488355328 then (some (t150 ++ bytesOf a1_3)) else (none))) = some r := by first | (rw [hy147]; with_reducible exact H) | (have H2_ := (Option.bind_some _ _).symm.trans H; rw [hy147]; with_reducible exact H2_) | (have H2_ := (Option.bind_some _ _).symm.trans H; with_reducible exact H2_) | with_reducible exact H | (rw [hy147]; exact H) | exact H
            have Ny147 := Aside0.mk hy147
            clear hy147
            replace H := Option.bind_eq_some_iff.mp H
            obtain ⟨t150, A130, H⟩ := H
            replace H : (if t150.length + a1_3.size < 140737488355328 then (some (t150 ++ bytesOf a1_3)) else (none)) = some r := H
            have A13 := Aside0.mk A130
            clear A130
            by_cases c14 : t150.length + a1_3.size < 140737488355328
            · rw [if_pos c14] at H
              have LMc14 := Aside0.mk c14
              clear c14
              obtain ⟨y153, hy153⟩ : ∃ y_ : List Int, y_ = (t150 ++ bytesOf a1_3) := ⟨_, rfl⟩
              replace H : (some y153) = some r := by first | (rw [hy153]; with_reducible exact H) | (have H2_ := (Option.bind_some _ _).symm.trans H; rw [hy153]; with_reducible exact H2_) | (have H2_ := (Option.bind_some _ _).symm.trans H; with_reducible exact H2_) | with_reducible exact H | (rw [hy153]; exact H) | exact H
              have Ny153 := Aside0.mk hy153
              clear hy153
              obtain rfl := Option.some.inj H
              go_enter Try.func44, Try.ntmps44
              try go_wp2_with (first | ((with_reducible refine gate_dst (N := 3) rfl ?_); refine box_event ?hg (N := 3) ?hd (cs := #[.int .i64 a1_0, .int .i64 a1_1, .string a1_2, .string a1_3, .bool true]) (t := 34) ?hr ?_; (case hd => rfl); (case hg => rfl); (case hr => first | (go_simp; done) | (go_simp; rfl)); intro gb129 hg w15 hbox hb; have n0_ := Aside0.mk (vT (by repeat (first | (with_reducible first | exact HB.out | apply vA | apply vN | apply vD) | exact HB.out)) hb); have n1_ := Aside0.mk (hbox); have n2_ := Aside0.mk ((by rw [hg]; exact (vZ (by repeat (first | (with_reducible first | exact HB.out | apply vA | apply vN | apply vD) | exact HB.out))) : w.heap.size ≤ gb129)); have n3_ := Aside0.mk ((by rw [hg]; exact (vZ (by repeat (first | (with_reducible first | exact HB.out | apply vA | apply vN | apply vD) | exact HB.out))) : w.heap.size ≤ gb129)); clear HB; have HB := n0_; have BK129 := n1_; have GW129 := n2_; have GE129 := n3_; clear n0_ n1_ n2_ n3_; clear hb hbox hg) | ((with_reducible refine gate_builtin (b := .append) (xs := #[(.const (.slice none 0 0)), .tmp 7]) rfl ?_); at_builtin; refine Kd.R_append_rows (Kd.int .u8) (w0 := w) w.heap.size rfl (.const (.slice none 0 0)) (.tmp 7) 37 5 (.int .u8 0) 1 rfl Try.underlying37 info5 rfl (by decide) (by omega) (.slice none 0 0) ([] : List Int) l0 _ _ _ (fun _ => True) (fun _ => False) rfl rfl ?aO ?aR (fun _ _ h => h) (fun _ h => h.elim) ?aF ?aB ?aS ?aL ?_; (case aR => repeat (first | exact (Kd.C_below HR0.out HB.out) | (with_reducible refine Kd.C_alloc ?_ _) | (with_reducible refine Kd.C_drewN ?_ _) | (with_reducible refine Kd.C_drew ?_))); (case aB => exact (by repeat (first | (with_reducible first | exact HB.out | apply vA | apply vN | apply vD | refine vS ?_ GE129.out) | exact HB.out))); (case aF => exact (fun _ _ => trivial)); (case aO => exact ((Kd.R_nil _ _ _ _ (fun _ => True)))); (case aS => exact (vZ (by repeat (first | (with_reducible first | exact HB.out | apply vA | apply vN | apply vD | refine vS ?_ GE129.out) | exact HB.out)))); (case aL => have := LMc3.out; omega); intro v131 w16 ho hb hg hat; rw [← Ny130.out] at ho; have n0_ := Aside0.mk (blk_grown (g := gb129) (o := .cells #[.int .i64 a1_0, .int .i64 a1_1, .string a1_2, .string a1_3, .bool true] 34 (0, 0)) (by (with_reducible repeat (first | refine bN ?_ _ | refine bD ?_ | refine bA ?_ _)); exact BK129.out) hg (by simp [Value.ownBlock])); have n1_ := Aside0.mk (hb); have n2_ := Aside0.mk (ho); clear BK129; clear HB; have BK129 := n0_; have HB := n1_; have HO132 := n2_; clear n0_ n1_ n2_; clear ho hb hg hat; have hcz17_0 : w16.cell? ⟨gb129, 0, none⟩ = some (.int .i64 a1_0) := (bC BK129.out 0).trans rfl; have hcz17_1 : w16.cell? ⟨gb129, 1, none⟩ = some (.int .i64 a1_1) := (bC BK129.out 1).trans rfl; have hcz17_2 : w16.cell? ⟨gb129, 2, none⟩ = some (.string a1_2) := (bC BK129.out 2).trans rfl; have hcz17_3 : w16.cell? ⟨gb129, 3, none⟩ = some (.string a1_3) := (bC BK129.out 3).trans rfl; have hcz17_4 : w16.cell? ⟨gb129, 4, none⟩ = some (.bool true) := (bC BK129.out 4).trans rfl; have hfz17_0 := bF BK129.out 0; have hfz17_1 := bF BK129.out 1; have hfz17_2 := bF BK129.out 2; have hfz17_3 := bF BK129.out 3; have hfz17_4 := bF BK129.out 4) | ((with_reducible refine gate_callee (f := 36) rfl ?_); refine goesL_ (some 10) rfl rfl Try.func36 (by kernel_rfl) rfl #[.agg #[.int .i64 a1_0, .int .i64 a1_1, .string a1_2, .string a1_3, .bool true]] rfl (by (try simp only [List.map_toArray, List.map_cons, List.map_nil]); first | done | rfl | (simp only [List.length_drop, List.length_take]; rfl)) ?_; (with_reducible refine (record_Right.calls a1_0 a1_1 a1_2 a1_3 true true _ A4.out).mono ?_); rintro e w18 ⟨rfl, hb⟩; refine ⟨_, rfl, ?_⟩; have n0_ := Aside0.mk (Kd.RB (by (with_reducible repeat (first | apply Kd.RA | apply Kd.RN | apply Kd.RD)); exact HO132.out) hb); have n1_ := Aside0.mk (bB (g := gb129) (o := .cells #[.int .i64 a1_0, .int .i64 a1_1, .string a1_2, .string a1_3, .bool true] 34 (0, 0)) (by (with_reducible repeat (first | refine bN ?_ _ | refine bD ?_ | refine bA ?_ _)); exact BK129.out) hb); have n2_ := Aside0.mk (vT (by repeat (first | (with_reducible first | exact HB.out | apply vA | apply vN | apply vD | refine vS ?_ GE129.out) | exact HB.out)) hb); clear HO132; clear BK129; clear HB; have HO132 := n0_; have BK129 := n1_; have HB := n2_; clear n0_ n1_ n2_; (try clear hb); (try clear hb2); (try clear hk); (try clear hi); have hcz19_0 : w18.cell? ⟨gb129, 0, none⟩ = some (.int .i64 a1_0) := (bC BK129.out 0).trans rfl; have hcz19_1 : w18.cell? ⟨gb129, 1, none⟩ = some (.int .i64 a1_1) := (bC BK129.out 1).trans rfl; have hcz19_2 : w18.cell? ⟨gb129, 2, none⟩ = some (.string a1_2) := (bC BK129.out 2).trans rfl; have hcz19_3 : w18.cell? ⟨gb129, 3, none⟩ = some (.string a1_3) := (bC BK129.out 3).trans rfl; have hcz19_4 : w18.cell? ⟨gb129, 4, none⟩ = some (.bool true) := (bC BK129.out 4).trans rfl; have hfz19_0 := bF BK129.out 0; have hfz19_1 := bF BK129.out 1; have hfz19_2 := bF BK129.out 2; have hfz19_3 := bF BK129.out 3; have hfz19_4 := bF BK129.out 4; obtain ⟨Ao20, co20, eo20⟩ := Kd.R_slice HO132.out; subst eo20) | ((with_reducible refine gate_callee (f := 67) rfl ?_); refine goesL_ (some 17) rfl rfl Try.func67 (by kernel_rfl) rfl #[.slice Ao20 y130.length co20, .int .u64 (IntKind.u64.wrap (a1_0))] rfl (by (try simp only [List.map_toArray, List.map_cons, List.map_nil]); first | done | rfl | (simp only [List.length_drop, List.length_take]; rfl)) ?_; (with_reducible refine (varint_Put.calls k _ _ y130 (IntKind.u64.wrap (a1_0)) t134 _ ?side1 ?side2 A6.out).mono ?_); (case side1 => repeat (first | exact (Kd.R_reads' HO132.out).2.2 | (with_reducible refine Kd.C_alloc ?_ _) | (with_reducible refine Kd.C_drewN ?_ _) | (with_reducible refine Kd.C_drew ?_))); (case side2 => exact (Kd.R_reads' HO132.out).2.1); rintro e w21 ⟨v135, rfl, ho0, hb⟩; refine ⟨_, rfl, ?_⟩; have n0_ := Aside0.mk (Kd.R_elder' (by (with_reducible repeat (first | apply Kd.RA | apply Kd.RN | apply Kd.RD)); exact HO132.out) (Kd.R_base ho0) hb); have n1_ := Aside0.mk (Kd.RL (Kd.R_new' ho0 (Kd.R_lt (by (with_reducible repeat (first | apply Kd.RA | apply Kd.RN | apply Kd.RD)); exact HO132.out))) (vZ (by repeat (first | (with_reducible first | exact HB.out | apply vA | apply vN | apply vD | refine vS ?_ GE129.out) | exact HB.out)))); have n2_ := Aside0.mk (bB (g := gb129) (o := .cells #[.int .i64 a1_0, .int .i64 a1_1, .string a1_2, .string a1_3, .bool true] 34 (0, 0)) (by (with_reducible repeat (first | refine bN ?_ _ | refine bD ?_ | refine bA ?_ _)); exact BK129.out) hb); have n3_ := Aside0.mk (vT (by repeat (first | (with_reducible first | exact HB.out | apply vA | apply vN | apply vD | refine vS ?_ GE129.out) | exact HB.out)) hb); clear HO132; clear BK129; clear HB; have HO132 := n0_; have HO136 := n1_; have BK129 := n2_; have HB := n3_; clear n0_ n1_ n2_ n3_; (try clear hb); (try clear hb2); (try clear hk); (try clear hi); (try clear ho0); have hcz22_0 : w21.cell? ⟨gb129, 0, none⟩ = some (.int .i64 a1_0) := (bC BK129.out 0).trans rfl; have hcz22_1 : w21.cell? ⟨gb129, 1, none⟩ = some (.int .i64 a1_1) := (bC BK129.out 1).trans rfl; have hcz22_2 : w21.cell? ⟨gb129, 2, none⟩ = some (.string a1_2) := (bC BK129.out 2).trans rfl; have hcz22_3 : w21.cell? ⟨gb129, 3, none⟩ = some (.string a1_3) := (bC BK129.out 3).trans rfl; have hcz22_4 : w21.cell? ⟨gb129, 4, none⟩ = some (.bool true) := (bC BK129.out 4).trans rfl; have hfz22_0 := bF BK129.out 0; have hfz22_1 := bF BK129.out 1; have hfz22_2 := bF BK129.out 2; have hfz22_3 := bF BK129.out 3; have hfz22_4 := bF BK129.out 4) | ((with_reducible refine gate_callee (f := 68) rfl ?_); refine goesL_ (some 21) rfl rfl Try.func68 (by kernel_rfl) rfl #[.int .i64 a1_1] rfl (by (try simp only [List.map_toArray, List.map_cons, List.map_nil]); first | done | rfl | (simp only [List.length_drop, List.length_take]; rfl)) ?_; (with_reducible refine (varint_Fold.calls a1_1 t137 _ A7.out).mono ?_); rintro e w' ⟨rfl, ⟨nd, rfl⟩⟩; refine ⟨_, rfl, ?_⟩; obtain ⟨Ao23, co23, eo23⟩ := Kd.R_slice HO136.out; subst eo23) | ((with_reducible refine gate_callee (f := 67) rfl ?_); refine goesL_ (some 22) rfl rfl Try.func67 (by kernel_rfl) rfl #[.slice Ao23 t134.length co23, .int .u64 t137] rfl (by (try simp only [List.map_toArray, List.map_cons, List.map_nil]); first | done | rfl | (simp only [List.length_drop, List.length_take]; rfl)) ?_; (with_reducible refine (varint_Put.calls k _ _ t134 t137 t138 _ ?side1 ?side2 A8.out).mono ?_); (case side1 => repeat (first | exact (Kd.R_reads' HO136.out).2.2 | (with_reducible refine Kd.C_alloc ?_ _) | (with_reducible refine Kd.C_drewN ?_ _) | (with_reducible refine Kd.C_drew ?_))); (case side2 => exact (Kd.R_reads' HO136.out).2.1); rintro e w24 ⟨v139, rfl, ho0, hb⟩; refine ⟨_, rfl, ?_⟩; have n0_ := Aside0.mk (Kd.R_elder' (by (with_reducible repeat (first | apply Kd.RA | apply Kd.RN | apply Kd.RD)); exact HO132.out) (Kd.R_base ho0) hb); have n1_ := Aside0.mk (Kd.R_elder' (by (with_reducible repeat (first | apply Kd.RA | apply Kd.RN | apply Kd.RD)); exact HO136.out) (Kd.R_base ho0) hb); have n2_ := Aside0.mk (Kd.RL (Kd.R_new' (Kd.R_new' ho0 (Kd.R_lt (by (with_reducible repeat (first | apply Kd.RA | apply Kd.RN | apply Kd.RD)); exact HO132.out))) (Kd.R_lt (by (with_reducible repeat (first | apply Kd.RA | apply Kd.RN | apply Kd.RD)); exact HO136.out))) (vZ (by repeat (first | (with_reducible first | exact HB.out | apply vA | apply vN | apply vD | refine vS ?_ GE129.out) | exact HB.out)))); have n3_ := Aside0.mk (bB (g := gb129) (o := .cells #[.int .i64 a1_0, .int .i64 a1_1, .string a1_2, .string a1_3, .bool true] 34 (0, 0)) (by (with_reducible repeat (first | refine bN ?_ _ | refine bD ?_ | refine bA ?_ _)); exact BK129.out) hb); have n4_ := Aside0.mk (vT (by repeat (first | (with_reducible first | exact HB.out | apply vA | apply vN | apply vD | refine vS ?_ GE129.out) | exact HB.out)) hb); clear HO132; clear HO136; clear BK129; clear HB; have HO132 := n0_; have HO136 := n1_; have HO140 := n2_; have BK129 := n3_; have HB := n4_; clear n0_ n1_ n2_ n3_ n4_; (try clear hb); (try clear hb2); (try clear hk); (try clear hi); (try clear ho0); have hcz25_0 : w24.cell? ⟨gb129, 0, none⟩ = some (.int .i64 a1_0) := (bC BK129.out 0).trans rfl; have hcz25_1 : w24.cell? ⟨gb129, 1, none⟩ = some (.int .i64 a1_1) := (bC BK129.out 1).trans rfl; have hcz25_2 : w24.cell? ⟨gb129, 2, none⟩ = some (.string a1_2) := (bC BK129.out 2).trans rfl; have hcz25_3 : w24.cell? ⟨gb129, 3, none⟩ = some (.string a1_3) := (bC BK129.out 3).trans rfl; have hcz25_4 : w24.cell? ⟨gb129, 4, none⟩ = some (.bool true) := (bC BK129.out 4).trans rfl; have hfz25_0 := bF BK129.out 0; have hfz25_1 := bF BK129.out 1; have hfz25_2 := bF BK129.out 2; have hfz25_3 := bF BK129.out 3; have hfz25_4 := bF BK129.out 4) | ((with_reducible refine gate_builtin (b := .append) (xs := #[(.tmp 25), .tmp 27]) rfl ?_); at_builtin; refine Kd.R_append (Kd.int .u8) (w0 := w) w.heap.size rfl (.tmp 25) (.tmp 27) 37 5 (.int .u8 0) 1 rfl Try.underlying37 info5 rfl (by decide) (by omega) v139 t138 1 [.int .u8 1] (fun k_ => some k_ ≠ (.slice Ao20 y130.length co20 : Value).ownBlock ∧ some k_ ≠ (.slice Ao23 t134.length co23 : Value).ownBlock) (fun _ => False) rfl rfl ?aP (fun _ hk => hk.elim) ?aF ?aO ?aB ?aS ?aL ?_; (case aP => exact rfl); (case aB => exact (by repeat (first | (with_reducible first | exact HB.out | apply vA | apply vN | apply vD | refine vS ?_ GE129.out) | exact HB.out))); (case aF => exact (fun k_ hk => ⟨Kd.fresh' (Kd.R_lt (by (with_reducible repeat (first | apply Kd.RA | apply Kd.RN | apply Kd.RD)); exact HO132.out)) k_ hk, Kd.fresh' (Kd.R_lt (by (with_reducible repeat (first | apply Kd.RA | apply Kd.RN | apply Kd.RD)); exact HO136.out)) k_ hk⟩)); (case aO => exact (by (with_reducible repeat (first | apply Kd.RA | apply Kd.RN | apply Kd.RD)); exact Kd.RM HO140.out (fun _ hk => ⟨hk.1.2, hk.2⟩))); (case aS => exact (vZ (by repeat (first | (with_reducible first | exact HB.out | apply vA | apply vN | apply vD | refine vS ?_ GE129.out) | exact HB.out)))); (case aL => have := LMc10.out; omega); intro v142 w26 ho hb hg hat; rw [← Ny141.out] at ho; have n0_ := Aside0.mk (blk_grown (g := gb129) (o := .cells #[.int .i64 a1_0, .int .i64 a1_1, .string a1_2, .string a1_3, .bool true] 34 (0, 0)) (by (with_reducible repeat (first | refine bN ?_ _ | refine bD ?_ | refine bA ?_ _)); exact BK129.out) hg (Kd.R_ne HO140.out BK129.out (by decide))); have n1_ := Aside0.mk (Kd.R_after (ok := (fun k_ => some k_ ≠ (.slice Ao23 t134.length co23 : Value).ownBlock)) (by (with_reducible repeat (first | apply Kd.RA | apply Kd.RN | apply Kd.RD)); exact Kd.RM HO132.out (fun _ hk => ⟨hk.1.2, hk.2⟩)) hg hat); have n2_ := Aside0.mk (Kd.R_after (ok := (fun k_ => some k_ ≠ (.slice Ao20 y130.length co20 : Value).ownBlock)) (by (with_reducible repeat (first | apply Kd.RA | apply Kd.RN | apply Kd.RD)); exact Kd.RM HO136.out (fun _ hk => ⟨hk.1.2, hk.2⟩)) hg hat); have n3_ := Aside0.mk (hb); have n4_ := Aside0.mk (ho); clear BK129; clear HO132; clear HO136; clear HB; clear HO140; have BK129 := n0_; have HO132 := n1_; have HO136 := n2_; have HB := n3_; have HO143 := n4_; clear n0_ n1_ n2_ n3_ n4_; clear ho hb hg hat))
              have n0_ := Aside0.mk (Kd.RD HO132.out)
              have n1_ := Aside0.mk (Kd.RD HO136.out)
              have n2_ := Aside0.mk (Kd.RD HO143.out)
              have n3_ := Aside0.mk (bD BK129.out)
              have n4_ := Aside0.mk (vD HB.out)
              clear HO132
              clear HO136
              clear HO143
              clear BK129
              clear HB
              have HO132 := n0_
              have HO136 := n1_
              have HO143 := n2_
              have BK129 := n3_
              have HB := n4_
              clear n0_ n1_ n2_ n3_ n4_
              obtain ⟨Ao28, co28, eo28⟩ := Kd.R_slice HO143.out
              (first | subst eo28 | (injection eo28 with f1_ f2_ f3_; have f4_ := f1_.symm; have f5_ := f3_.symm; clear f1_ f2_ f3_; subst f4_; subst f5_))
              refine start_ (n := 10) (S := fun w' => w'.cell? ⟨gb129, 0, none⟩ = some (.int .i64 a1_0) ∧ w'.cell? ⟨gb129, 1, none⟩ = some (.int .i64 a1_1) ∧ w'.cell? ⟨gb129, 2, none⟩ = some (.string a1_2) ∧ w'.cell? ⟨gb129, 3, none⟩ = some (.string a1_3) ∧ w'.cell? ⟨gb129, 4, none⟩ = some (.bool true)) (ds := []) #[false, false, false, false, false, false, false, false, false, false] (by kernel_rfl) rfl rfl ⟨(bC BK129.out 0).trans rfl, (bC BK129.out 1).trans rfl, (bC BK129.out 2).trans rfl, (bC BK129.out 3).trans rfl, (bC BK129.out 4).trans rfl⟩ (fun hHeld => ?_); refine with_tabW record_Put.tab10 record_Put.bits10 (fun HT_ HW_ => ?_)
              generalize w26.drew = w27 at HO132 HO136 HO143 BK129 HB hHeld ⊢
              refine pure_ (i := 0) (N := some 29) (v := ?_) (a' := ?_) #[true, false, false, false, false, false, false, false, false, false] rfl rfl (any_of HT_.out (by kernel_rfl)) (fun _ _ _ h => h) (Or.inl ⟨by rfl, ?_⟩) ?_ ?_
              rotate_left
              · intro w'
                go_simp
                with_reducible rfl
              rotate_left
              · simp only [Act.put, List.setIfInBounds_toArray, List.set_cons_zero, List.set_cons_succ, i64_w, i32_w]
                rfl
              refine pure_ (i := 1) (N := some 30) (v := ?_) (a' := ?_) #[true, true, false, false, false, false, false, false, false, false] rfl rfl (any_of HT_.out (by kernel_rfl)) (fun _ _ _ h => h) (Or.inl ⟨by rfl, ?_⟩) ?_ ?_
              rotate_left
              · intro w'
                go_simp
                with_reducible rfl
              rotate_left
              · simp only [Act.put, List.setIfInBounds_toArray, List.set_cons_zero, List.set_cons_succ, i64_w, i32_w]
                rfl
              refine pure_ (i := 6) (N := some 35) (v := ?_) (a' := ?_) #[true, true, false, false, false, false, true, false, false, false] rfl rfl (any_of HT_.out (by kernel_rfl)) (fun _ _ _ h => h) (Or.inl ⟨by rfl, ?_⟩) ?_ ?_
              rotate_left
              · intro w'
                go_simp
                with_reducible rfl
              rotate_left
              · simp only [Act.put, List.setIfInBounds_toArray, List.set_cons_zero, List.set_cons_succ, i64_w, i32_w]
                rfl
              refine take_ (i := 2) (N := some 31) (v := ?_) (a' := ?_) #[true, true, true, false, false, false, true, false, false, false] rfl rfl (take_ofW HT_.out HW_.out (by kernel_rfl)) (fun _ _ _ h => h) (Or.inl ⟨by rfl, ?_⟩) hHeld ?_ ?_
              rotate_left
              · rintro w' ⟨s0, s1, s2, s3, s4⟩
                go_simp
                with_reducible rfl
              rotate_left
              · simp only [Act.put, List.setIfInBounds_toArray, List.set_cons_zero, List.set_cons_succ, i64_w, i32_w]
                rfl
              refine pure_ (i := 3) (N := some 32) (v := ?_) (a' := ?_) #[true, true, true, true, false, false, true, false, false, false] rfl rfl (any_of HT_.out (by kernel_rfl)) (fun _ _ _ h => h) (Or.inl ⟨by rfl, ?_⟩) ?_ ?_
              rotate_left
              · intro w'
                go_simp
                with_reducible rfl
              rotate_left
              · simp only [Act.put, List.setIfInBounds_toArray, List.set_cons_zero, List.set_cons_succ, i64_w, i32_w]
                rfl
              refine pure_ (i := 4) (N := some 33) (v := ?_) (a' := ?_) #[true, true, true, true, true, false, true, false, false, false] rfl rfl (any_of HT_.out (by kernel_rfl)) (fun _ _ _ h => h) (Or.inl ⟨by rfl, ?_⟩) ?_ ?_
              rotate_left
              · intro w'
                go_simp
                with_reducible rfl
              rotate_left
              · simp only [Act.put, List.setIfInBounds_toArray, List.set_cons_zero, List.set_cons_succ, i64_w, i32_w]
                rfl
              refine take_ (i := 7) (N := some 36) (v := ?_) (a' := ?_) #[true, true, true, true, true, false, true, true, false, false] rfl rfl (take_ofW HT_.out HW_.out (by kernel_rfl)) (fun _ _ _ h => h) (Or.inl ⟨by rfl, ?_⟩) hHeld ?_ ?_
              rotate_left
              · rintro w' ⟨s0, s1, s2, s3, s4⟩
                go_simp
                with_reducible rfl
              rotate_left
              · simp only [Act.put, List.setIfInBounds_toArray, List.set_cons_zero, List.set_cons_succ, i64_w, i32_w]
                rfl
              refine one_ (i := 5) (N := some 34) #[true, true, true, true, true, true, true, true, false, false] rfl rfl (one_of HT_.out (by kernel_rfl)) (by decide) (fun K hK => ?_)
              refine goes_ Try.func67 (by kernel_rfl) rfl #[.slice Ao28 y141.length co28, .int .u64 (IntKind.u64.wrap ((a1_2.size : Int)))] (by rfl) rfl rfl (by (try simp only [List.map_toArray, List.map_cons, List.map_nil]); first | done | rfl | (simp only [List.length_drop, List.length_take]; rfl)) ?_
              with_reducible refine (varint_Put.calls k _ _ y141 (IntKind.u64.wrap ((a1_2.size : Int))) t144 _ ?side1 ?side2 A11.out).mono ?_
              (case side1 => repeat (first | exact (Kd.R_reads' HO143.out).2.2 | (with_reducible refine Kd.C_alloc ?_ _) | (with_reducible refine Kd.C_drewN ?_ _) | (with_reducible refine Kd.C_drew ?_)))
              (case side2 => exact (Kd.R_reads' HO143.out).2.1)
              rintro e w29 ⟨v145, rfl, ho0, hb⟩
              refine ⟨_, rfl, ?_⟩
              have n0_ := Aside0.mk (Kd.R_elder' (by (with_reducible repeat (first | apply Kd.RA | apply Kd.RN | apply Kd.RD)); exact HO132.out) (Kd.R_base ho0) hb)
              have n1_ := Aside0.mk (Kd.R_elder' (by (with_reducible repeat (first | apply Kd.RA | apply Kd.RN | apply Kd.RD)); exact HO136.out) (Kd.R_base ho0) hb)
              have n2_ := Aside0.mk (Kd.R_elder' (by (with_reducible repeat (first | apply Kd.RA | apply Kd.RN | apply Kd.RD)); exact HO143.out) (Kd.R_base ho0) hb)
              have n3_ := Aside0.mk (Kd.RL (Kd.R_new' (Kd.R_new' (Kd.R_new' ho0 (Kd.R_lt (by (with_reducible repeat (first | apply Kd.RA | apply Kd.RN | apply Kd.RD)); exact HO132.out))) (Kd.R_lt (by (with_reducible repeat (first | apply Kd.RA | apply Kd.RN | apply Kd.RD)); exact HO136.out))) (Kd.R_lt (by (with_reducible repeat (first | apply Kd.RA | apply Kd.RN | apply Kd.RD)); exact HO143.out))) (vZ (by repeat (first | (with_reducible first | exact HB.out | apply vA | apply vN | apply vD | refine vS ?_ GE129.out) | exact HB.out))))
              have n4_ := Aside0.mk (bB (g := gb129) (o := .cells #[.int .i64 a1_0, .int .i64 a1_1, .string a1_2, .string a1_3, .bool true] 34 (0, 0)) (by (with_reducible repeat (first | refine bN ?_ _ | refine bD ?_ | refine bA ?_ _)); exact BK129.out) hb)
              have n5_ := Aside0.mk (vT (by repeat (first | (with_reducible first | exact HB.out | apply vA | apply vN | apply vD | refine vS ?_ GE129.out) | exact HB.out)) hb)
              clear HO132
              clear HO136
              clear HO143
              clear BK129
              clear HB
              have HO132 := n0_
              have HO136 := n1_
              have HO143 := n2_
              have HO146 := n3_
              have BK129 := n4_
              have HB := n5_
              clear n0_ n1_ n2_ n3_ n4_ n5_
              (try clear hb)
              (try clear hb2)
              (try clear hk)
              (try clear hi)
              (try clear ho0)
              refine hK.out _ _ ⟨(bC BK129.out 0).trans rfl, (bC BK129.out 1).trans rfl, (bC BK129.out 2).trans rfl, (bC BK129.out 3).trans rfl, (bC BK129.out 4).trans rfl⟩ (fun hHeld => ?_)
              clear hK K
              refine norm_ (a' := ?_) ?_ ?_
              rotate_left
              · show Act.put _ (some 34) _ = _
                simp only [Act.put, List.setIfInBounds_toArray, List.set_cons_zero, List.set_cons_succ, i64_w, i32_w]
                rfl
              refine one_ (i := 8) (N := some 37) #[true, true, true, true, true, true, true, true, true, false] rfl rfl (one_of HT_.out (by kernel_rfl)) (by decide) (fun K hK => ?_)
              refine R_append_str_step (w0 := w) w.heap.size (by rfl) (.tmp 34) _ 37 9 5 rfl Try.underlying37 Try.underlying9 info5 v145 t144 a1_2 (fun k_ => some k_ ≠ (.slice Ao20 y130.length co20 : Value).ownBlock ∧ some k_ ≠ (.slice Ao23 t134.length co23 : Value).ownBlock ∧ some k_ ≠ (.slice Ao28 y141.length co28 : Value).ownBlock) rfl rfl ?aO ?aF ?aB ?aS ?aL ?_
              (case aB => exact (by repeat (first | (with_reducible first | exact HB.out | apply vA | apply vN | apply vD | refine vS ?_ GE129.out) | exact HB.out)))
              (case aF => exact (fun k_ hk => ⟨Kd.fresh' (Kd.R_lt (by (with_reducible repeat (first | apply Kd.RA | apply Kd.RN | apply Kd.RD)); exact HO132.out)) k_ hk, Kd.fresh' (Kd.R_lt (by (with_reducible repeat (first | apply Kd.RA | apply Kd.RN | apply Kd.RD)); exact HO136.out)) k_ hk, Kd.fresh' (Kd.R_lt (by (with_reducible repeat (first | apply Kd.RA | apply Kd.RN | apply Kd.RD)); exact HO143.out)) k_ hk⟩))
              (case aO => exact (by (with_reducible repeat (first | apply Kd.RA | apply Kd.RN | apply Kd.RD)); exact Kd.RM HO146.out (fun _ hk => ⟨hk.1.1.2, ⟨hk.1.2, hk.2⟩⟩)))
              (case aS => exact (vZ (by repeat (first | (with_reducible first | exact HB.out | apply vA | apply vN | apply vD | refine vS ?_ GE129.out) | exact HB.out))))
              (case aL => have := LMc12.out; omega)
              intro v148 w30 ho hb hg hat
              rw [← Ny147.out] at ho
              have n0_ := Aside0.mk (blk_grown (g := gb129) (o := .cells #[.int .i64 a1_0, .int .i64 a1_1, .string a1_2, .string a1_3, .bool true] 34 (0, 0)) (by (with_reducible repeat (first | refine bN ?_ _ | refine bD ?_ | refine bA ?_ _)); exact BK129.out) hg (Kd.R_ne HO146.out BK129.out (by decide)))
              have n1_ := Aside0.mk (Kd.R_after (ok := (fun k_ => some k_ ≠ (.slice Ao23 t134.length co23 : Value).ownBlock ∧ some k_ ≠ (.slice Ao28 y141.length co28 : Value).ownBlock)) (by (with_reducible repeat (first | apply Kd.RA | apply Kd.RN | apply Kd.RD)); exact HO132.out) hg hat)
              have n2_ := Aside0.mk (Kd.R_after (ok := (fun k_ => some k_ ≠ (.slice Ao20 y130.length co20 : Value).ownBlock ∧ some k_ ≠ (.slice Ao28 y141.length co28 : Value).ownBlock)) (by (with_reducible repeat (first | apply Kd.RA | apply Kd.RN | apply Kd.RD)); exact HO136.out) hg hat)
              have n3_ := Aside0.mk (Kd.R_after (ok := (fun k_ => some k_ ≠ (.slice Ao20 y130.length co20 : Value).ownBlock ∧ some k_ ≠ (.slice Ao23 t134.length co23 : Value).ownBlock)) (by (with_reducible repeat (first | apply Kd.RA | apply Kd.RN | apply Kd.RD)); exact HO143.out) hg hat)
              have n4_ := Aside0.mk (hb)
              have n5_ := Aside0.mk (ho)
              clear BK129
              clear HO132
              clear HO136
              clear HO143
              clear HB
              clear HO146
              have BK129 := n0_
              have HO132 := n1_
              have HO136 := n2_
              have HO143 := n3_
              have HB := n4_
              have HO149 := n5_
              clear n0_ n1_ n2_ n3_ n4_ n5_
              clear ho hb hg hat
              refine hK.out _ _ ⟨(bC BK129.out 0).trans rfl, (bC BK129.out 1).trans rfl, (bC BK129.out 2).trans rfl, (bC BK129.out 3).trans rfl, (bC BK129.out 4).trans rfl⟩ (fun hHeld => ?_)
              clear hK K
              refine norm_ (a' := ?_) ?_ ?_
              rotate_left
              · show Act.put _ (some 37) _ = _
                simp only [Act.put, List.setIfInBounds_toArray, List.set_cons_zero, List.set_cons_succ, i64_w, i32_w]
                rfl
              refine pure_ (i := 9) (N := some 5) (v := ?_) (a' := ?_) #[true, true, true, true, true, true, true, true, true, true] rfl rfl (any_of HT_.out (by kernel_rfl)) (fun _ _ _ h => h) (Or.inl ⟨by rfl, ?_⟩) ?_ ?_
              rotate_left
              · intro w'
                go_simp
                with_reducible rfl
              rotate_left
              · simp only [Act.put, List.setIfInBounds_toArray, List.set_cons_zero, List.set_cons_succ, i64_w, i32_w]
                rfl
              refine done_ (done_of HT_.out (by kernel_rfl)) ?_
              try go_wp2
              have n0_ := Aside0.mk (Kd.RD HO132.out)
              have n1_ := Aside0.mk (Kd.RD HO136.out)
              have n2_ := Aside0.mk (Kd.RD HO143.out)
              have n3_ := Aside0.mk (Kd.RD HO149.out)
              have n4_ := Aside0.mk (bD BK129.out)
              have n5_ := Aside0.mk (vD HB.out)
              clear HO132
              clear HO136
              clear HO143
              clear HO149
              clear BK129
              clear HB
              have HO132 := n0_
              have HO136 := n1_
              have HO143 := n2_
              have HO149 := n3_
              have BK129 := n4_
              have HB := n5_
              clear n0_ n1_ n2_ n3_ n4_ n5_
              obtain ⟨Ao32, co32, eo32⟩ := Kd.R_slice HO149.out
              (first | subst eo32 | (injection eo32 with f1_ f2_ f3_; have f4_ := f1_.symm; have f5_ := f3_.symm; clear f1_ f2_ f3_; subst f4_; subst f5_))
              refine start_ (n := 10) (S := fun w' => w'.cell? ⟨gb129, 0, none⟩ = some (.int .i64 a1_0) ∧ w'.cell? ⟨gb129, 1, none⟩ = some (.int .i64 a1_1) ∧ w'.cell? ⟨gb129, 2, none⟩ = some (.string a1_2) ∧ w'.cell? ⟨gb129, 3, none⟩ = some (.string a1_3) ∧ w'.cell? ⟨gb129, 4, none⟩ = some (.bool true)) (ds := []) #[false, false, false, false, false, false, false, false, false, false] (by kernel_rfl) rfl rfl ⟨(bC BK129.out 0).trans rfl, (bC BK129.out 1).trans rfl, (bC BK129.out 2).trans rfl, (bC BK129.out 3).trans rfl, (bC BK129.out 4).trans rfl⟩ (fun hHeld => ?_); refine with_tabW record_Put.tab11 record_Put.bits11 (fun HT_ HW_ => ?_)
              generalize w30.drew = w31 at HO132 HO136 HO143 HO149 BK129 HB hHeld ⊢
              refine pure_ (i := 0) (N := some 38) (v := ?_) (a' := ?_) #[true, false, false, false, false, false, false, false, false, false] rfl rfl (any_of HT_.out (by kernel_rfl)) (fun _ _ _ h => h) (Or.inl ⟨by rfl, ?_⟩) ?_ ?_
              rotate_left
              · intro w'
                go_simp
                with_reducible rfl
              rotate_left
              · simp only [Act.put, List.setIfInBounds_toArray, List.set_cons_zero, List.set_cons_succ, i64_w, i32_w]
                rfl
              refine pure_ (i := 1) (N := some 39) (v := ?_) (a' := ?_) #[true, true, false, false, false, false, false, false, false, false] rfl rfl (any_of HT_.out (by kernel_rfl)) (fun _ _ _ h => h) (Or.inl ⟨by rfl, ?_⟩) ?_ ?_
              rotate_left
              · intro w'
                go_simp
                with_reducible rfl
              rotate_left
              · simp only [Act.put, List.setIfInBounds_toArray, List.set_cons_zero, List.set_cons_succ, i64_w, i32_w]
                rfl
              refine pure_ (i := 6) (N := some 44) (v := ?_) (a' := ?_) #[true, true, false, false, false, false, true, false, false, false] rfl rfl (any_of HT_.out (by kernel_rfl)) (fun _ _ _ h => h) (Or.inl ⟨by rfl, ?_⟩) ?_ ?_
              rotate_left
              · intro w'
                go_simp
                with_reducible rfl
              rotate_left
              · simp only [Act.put, List.setIfInBounds_toArray, List.set_cons_zero, List.set_cons_succ, i64_w, i32_w]
                rfl
              refine take_ (i := 2) (N := some 40) (v := ?_) (a' := ?_) #[true, true, true, false, false, false, true, false, false, false] rfl rfl (take_ofW HT_.out HW_.out (by kernel_rfl)) (fun _ _ _ h => h) (Or.inl ⟨by rfl, ?_⟩) hHeld ?_ ?_
              rotate_left
              · rintro w' ⟨s0, s1, s2, s3, s4⟩
                go_simp
                with_reducible rfl
              rotate_left
              · simp only [Act.put, List.setIfInBounds_toArray, List.set_cons_zero, List.set_cons_succ, i64_w, i32_w]
                rfl
              refine pure_ (i := 3) (N := some 41) (v := ?_) (a' := ?_) #[true, true, true, true, false, false, true, false, false, false] rfl rfl (any_of HT_.out (by kernel_rfl)) (fun _ _ _ h => h) (Or.inl ⟨by rfl, ?_⟩) ?_ ?_
              rotate_left
              · intro w'
                go_simp
                with_reducible rfl
              rotate_left
              · simp only [Act.put, List.setIfInBounds_toArray, List.set_cons_zero, List.set_cons_succ, i64_w, i32_w]
                rfl
              refine pure_ (i := 4) (N := some 42) (v := ?_) (a' := ?_) #[true, true, true, true, true, false, true, false, false, false] rfl rfl (any_of HT_.out (by kernel_rfl)) (fun _ _ _ h => h) (Or.inl ⟨by rfl, ?_⟩) ?_ ?_
              rotate_left
              · intro w'
                go_simp
                with_reducible rfl
              rotate_left
              · simp only [Act.put, List.setIfInBounds_toArray, List.set_cons_zero, List.set_cons_succ, i64_w, i32_w]
                rfl
              refine take_ (i := 7) (N := some 45) (v := ?_) (a' := ?_) #[true, true, true, true, true, false, true, true, false, false] rfl rfl (take_ofW HT_.out HW_.out (by kernel_rfl)) (fun _ _ _ h => h) (Or.inl ⟨by rfl, ?_⟩) hHeld ?_ ?_
              rotate_left
              · rintro w' ⟨s0, s1, s2, s3, s4⟩
                go_simp
                with_reducible rfl
              rotate_left
              · simp only [Act.put, List.setIfInBounds_toArray, List.set_cons_zero, List.set_cons_succ, i64_w, i32_w]
                rfl
              refine one_ (i := 5) (N := some 43) #[true, true, true, true, true, true, true, true, false, false] rfl rfl (one_of HT_.out (by kernel_rfl)) (by decide) (fun K hK => ?_)
              refine goes_ Try.func67 (by kernel_rfl) rfl #[.slice Ao32 y147.length co32, .int .u64 (IntKind.u64.wrap ((a1_3.size : Int)))] (by rfl) rfl rfl (by (try simp only [List.map_toArray, List.map_cons, List.map_nil]); first | done | rfl | (simp only [List.length_drop, List.length_take]; rfl)) ?_
              with_reducible refine (varint_Put.calls k _ _ y147 (IntKind.u64.wrap ((a1_3.size : Int))) t150 _ ?side1 ?side2 A13.out).mono ?_
              (case side1 => repeat (first | exact (Kd.R_reads' HO149.out).2.2 | (with_reducible refine Kd.C_alloc ?_ _) | (with_reducible refine Kd.C_drewN ?_ _) | (with_reducible refine Kd.C_drew ?_)))
              (case side2 => exact (Kd.R_reads' HO149.out).2.1)
              rintro e w33 ⟨v151, rfl, ho0, hb⟩
              refine ⟨_, rfl, ?_⟩
              have n0_ := Aside0.mk (Kd.R_elder' (by (with_reducible repeat (first | apply Kd.RA | apply Kd.RN | apply Kd.RD)); exact HO132.out) (Kd.R_base ho0) hb)
              have n1_ := Aside0.mk (Kd.R_elder' (by (with_reducible repeat (first | apply Kd.RA | apply Kd.RN | apply Kd.RD)); exact HO136.out) (Kd.R_base ho0) hb)
              have n2_ := Aside0.mk (Kd.R_elder' (by (with_reducible repeat (first | apply Kd.RA | apply Kd.RN | apply Kd.RD)); exact HO143.out) (Kd.R_base ho0) hb)
              have n3_ := Aside0.mk (Kd.R_elder' (by (with_reducible repeat (first | apply Kd.RA | apply Kd.RN | apply Kd.RD)); exact HO149.out) (Kd.R_base ho0) hb)
              have n4_ := Aside0.mk (Kd.RL (Kd.R_new' (Kd.R_new' (Kd.R_new' (Kd.R_new' ho0 (Kd.R_lt (by (with_reducible repeat (first | apply Kd.RA | apply Kd.RN | apply Kd.RD)); exact HO132.out))) (Kd.R_lt (by (with_reducible repeat (first | apply Kd.RA | apply Kd.RN | apply Kd.RD)); exact HO136.out))) (Kd.R_lt (by (with_reducible repeat (first | apply Kd.RA | apply Kd.RN | apply Kd.RD)); exact HO143.out))) (Kd.R_lt (by (with_reducible repeat (first | apply Kd.RA | apply Kd.RN | apply Kd.RD)); exact HO149.out))) (vZ (by repeat (first | (with_reducible first | exact HB.out | apply vA | apply vN | apply vD | refine vS ?_ GE129.out) | exact HB.out))))
              have n5_ := Aside0.mk (bB (g := gb129) (o := .cells #[.int .i64 a1_0, .int .i64 a1_1, .string a1_2, .string a1_3, .bool true] 34 (0, 0)) (by (with_reducible repeat (first | refine bN ?_ _ | refine bD ?_ | refine bA ?_ _)); exact BK129.out) hb)
              have n6_ := Aside0.mk (vT (by repeat (first | (with_reducible first | exact HB.out | apply vA | apply vN | apply vD | refine vS ?_ GE129.out) | exact HB.out)) hb)
              clear HO132
              clear HO136
              clear HO143
              clear HO149
              clear BK129
              clear HB
              have HO132 := n0_
              have HO136 := n1_
              have HO143 := n2_
              have HO149 := n3_
              have HO152 := n4_
              have BK129 := n5_
              have HB := n6_
              clear n0_ n1_ n2_ n3_ n4_ n5_ n6_
              (try clear hb)
              (try clear hb2)
              (try clear hk)
              (try clear hi)
              (try clear ho0)
              refine hK.out _ _ ⟨(bC BK129.out 0).trans rfl, (bC BK129.out 1).trans rfl, (bC BK129.out 2).trans rfl, (bC BK129.out 3).trans rfl, (bC BK129.out 4).trans rfl⟩ (fun hHeld => ?_)
              clear hK K
              refine norm_ (a' := ?_) ?_ ?_
              rotate_left
              · show Act.put _ (some 43) _ = _
                simp only [Act.put, List.setIfInBounds_toArray, List.set_cons_zero, List.set_cons_succ, i64_w, i32_w]
                rfl
              refine one_ (i := 8) (N := some 46) #[true, true, true, true, true, true, true, true, true, false] rfl rfl (one_of HT_.out (by kernel_rfl)) (by decide) (fun K hK => ?_)
              refine R_append_str_step (w0 := w) w.heap.size (by rfl) (.tmp 43) _ 37 9 5 rfl Try.underlying37 Try.underlying9 info5 v151 t150 a1_3 (fun k_ => some k_ ≠ (.slice Ao20 y130.length co20 : Value).ownBlock ∧ some k_ ≠ (.slice Ao23 t134.length co23 : Value).ownBlock ∧ some k_ ≠ (.slice Ao28 y141.length co28 : Value).ownBlock ∧ some k_ ≠ (.slice Ao32 y147.length co32 : Value).ownBlock) rfl rfl ?aO ?aF ?aB ?aS ?aL ?_
              (case aB => exact (by repeat (first | (with_reducible first | exact HB.out | apply vA | apply vN | apply vD | refine vS ?_ GE129.out) | exact HB.out)))
              (case aF => exact (fun k_ hk => ⟨Kd.fresh' (Kd.R_lt (by (with_reducible repeat (first | apply Kd.RA | apply Kd.RN | apply Kd.RD)); exact HO132.out)) k_ hk, Kd.fresh' (Kd.R_lt (by (with_reducible repeat (first | apply Kd.RA | apply Kd.RN | apply Kd.RD)); exact HO136.out)) k_ hk, Kd.fresh' (Kd.R_lt (by (with_reducible repeat (first | apply Kd.RA | apply Kd.RN | apply Kd.RD)); exact HO143.out)) k_ hk, Kd.fresh' (Kd.R_lt (by (with_reducible repeat (first | apply Kd.RA | apply Kd.RN | apply Kd.RD)); exact HO149.out)) k_ hk⟩))
              (case aO => exact (by (with_reducible repeat (first | apply Kd.RA | apply Kd.RN | apply Kd.RD)); exact Kd.RM HO152.out (fun _ hk => ⟨hk.1.1.1.2, ⟨hk.1.1.2, ⟨hk.1.2, hk.2⟩⟩⟩)))
              (case aS => exact (vZ (by repeat (first | (with_reducible first | exact HB.out | apply vA | apply vN | apply vD | refine vS ?_ GE129.out) | exact HB.out))))
              (case aL => have := LMc14.out; omega)
              intro v154 w34 ho hb hg hat
              rw [← Ny153.out] at ho
              have n0_ := Aside0.mk (blk_grown (g := gb129) (o := .cells #[.int .i64 a1_0, .int .i64 a1_1, .string a1_2, .string a1_3, .bool true] 34 (0, 0)) (by (with_reducible repeat (first | refine bN ?_ _ | refine bD ?_ | refine bA ?_ _)); exact BK129.out) hg (Kd.R_ne HO152.out BK129.out (by decide)))
              have n1_ := Aside0.mk (Kd.R_after (ok := (fun k_ => some k_ ≠ (.slice Ao23 t134.length co23 : Value).ownBlock ∧ some k_ ≠ (.slice Ao28 y141.length co28 : Value).ownBlock ∧ some k_ ≠ (.slice Ao32 y147.length co32 : Value).ownBlock)) (by (with_reducible repeat (first | apply Kd.RA | apply Kd.RN | apply Kd.RD)); exact Kd.RM HO132.out (fun _ hk => ⟨⟨hk.1.1.1, ⟨hk.1.1.2, hk.1.2⟩⟩, hk.2⟩)) hg hat)
              have n2_ := Aside0.mk (Kd.R_after (ok := (fun k_ => some k_ ≠ (.slice Ao20 y130.length co20 : Value).ownBlock ∧ some k_ ≠ (.slice Ao28 y141.length co28 : Value).ownBlock ∧ some k_ ≠ (.slice Ao32 y147.length co32 : Value).ownBlock)) (by (with_reducible repeat (first | apply Kd.RA | apply Kd.RN | apply Kd.RD)); exact Kd.RM HO136.out (fun _ hk => ⟨⟨hk.1.1.1, ⟨hk.1.1.2, hk.1.2⟩⟩, hk.2⟩)) hg hat)
              have n3_ := Aside0.mk (Kd.R_after (ok := (fun k_ => some k_ ≠ (.slice Ao20 y130.length co20 : Value).ownBlock ∧ some k_ ≠ (.slice Ao23 t134.length co23 : Value).ownBlock ∧ some k_ ≠ (.slice Ao32 y147.length co32 : Value).ownBlock)) (by (with_reducible repeat (first | apply Kd.RA | apply Kd.RN | apply Kd.RD)); exact Kd.RM HO143.out (fun _ hk => ⟨⟨hk.1.1.1, ⟨hk.1.1.2, hk.1.2⟩⟩, hk.2⟩)) hg hat)
              have n4_ := Aside0.mk (Kd.R_after (ok := (fun k_ => some k_ ≠ (.slice Ao20 y130.length co20 : Value).ownBlock ∧ some k_ ≠ (.slice Ao23 t134.length co23 : Value).ownBlock ∧ some k_ ≠ (.slice Ao28 y141.length co28 : Value).ownBlock)) (by (with_reducible repeat (first | apply Kd.RA | apply Kd.RN | apply Kd.RD)); exact HO149.out) hg hat)
              have n5_ := Aside0.mk (hb)
              have n6_ := Aside0.mk (ho)
              clear BK129
              clear HO132
              clear HO136
              clear HO143
              clear HO149
              clear HB
              clear HO152
              have BK129 := n0_
              have HO132 := n1_
              have HO136 := n2_
              have HO143 := n3_
              have HO149 := n4_
              have HB := n5_
              have HO155 := n6_
              clear n0_ n1_ n2_ n3_ n4_ n5_ n6_
              clear ho hb hg hat
              refine hK.out _ _ ⟨(bC BK129.out 0).trans rfl, (bC BK129.out 1).trans rfl, (bC BK129.out 2).trans rfl, (bC BK129.out 3).trans rfl, (bC BK129.out 4).trans rfl⟩ (fun hHeld => ?_)
              clear hK K
              refine norm_ (a' := ?_) ?_ ?_
              rotate_left
              · show Act.put _ (some 46) _ = _
                simp only [Act.put, List.setIfInBounds_toArray, List.set_cons_zero, List.set_cons_succ, i64_w, i32_w]
                rfl
              refine pure_ (i := 9) (N := some 4) (v := ?_) (a' := ?_) #[true, true, true, true, true, true, true, true, true, true] rfl rfl (any_of HT_.out (by kernel_rfl)) (fun _ _ _ h => h) (Or.inl ⟨by rfl, ?_⟩) ?_ ?_
              rotate_left
              · intro w'
                go_simp
                with_reducible rfl
              rotate_left
              · simp only [Act.put, List.setIfInBounds_toArray, List.set_cons_zero, List.set_cons_succ, i64_w, i32_w]
                rfl
              refine done_ (done_of HT_.out (by kernel_rfl)) ?_
              try go_wp2
              go_ret
              exact ⟨_, by first | rfl | (simp [*, eN, eS] <;> rfl) | (simp [eN, eS]; generalize ByteArray.toList _ = l_; cases l_ <;> rfl), by (with_reducible repeat (first | apply Kd.RA | apply Kd.RN | apply Kd.RD)); exact Kd.RM HO155.out (fun _ hk => trivial), by repeat (first | (with_reducible first | exact HB.out | apply vA | apply vN | apply vD | refine vS ?_ GE129.out) | exact HB.out)⟩
            · rw [if_neg c14] at H
              exact absurd H (by simp)
          · rw [if_neg c12] at H
            exact absurd H (by simp)
        · rw [if_neg c10] at H
          exact absurd H (by simp)
      · replace c9 := Bool.eq_false_iff.mpr c9
        subst c9
        have H1 : (if t138.length < 140737488355328 then ((varint_Put.f k (t138 ++ [0]) (IntKind.u64.wrap ((a1_2.size : Int)))).bind fun t159 => (if t159.length + a1_2.size < 140737488355328 then ((varint_Put.f k (t159 ++ bytesOf a1_2) (IntKind.u64.wrap ((a1_3.size : Int)))).bind fun t165 => (if t165.length + a1_3.size < 140737488355328 then (some (t165 ++ bytesOf a1_3)) else (none))) else (none))) else (none)) = some r := by rw [if_neg (show ¬ (false = true) by decide)] at H; exact H
        clear H
        have H := H1
        clear H1
        by_cases c35 : t138.length < 140737488355328
        · rw [if_pos c35] at H
          have LMc35 := Aside0.mk c35
          clear c35
          obtain ⟨y156, hy156⟩ : ∃ y_ : List Int, y_ = (t138 ++ [0]) := ⟨_, rfl⟩
          replace H : ((varint_Put.f k y156 (IntKind.u64.wrap ((a1_2.size : Int)))).bind fun t159 => (if t159.length + a1_2.size < 140737488355328 then ((varint_Put.f k (t159 ++ bytesOf a1_2) (IntKind.u64.wrap ((a1_3.size : Int)))).bind fun t165 => (if t165.length + a1_3.size < 140737488355328 then (some (t165 ++ bytesOf a1_3)) else (none))) else (none))) = some r := by first | (rw [hy156]; with_reducible exact H) | (have H2_ := (Option.bind_some _ _).symm.trans H; rw [hy156]; with_reducible exact H2_) | (have H2_ := (Option.bind_some _ _).symm.trans H; with_reducible exact H2_) | with_reducible exact H | (rw [hy156]; exact H) | exact H
          have Ny156 := Aside0.mk hy156
          clear hy156
          replace H := Option.bind_eq_some_iff.mp H
          obtain ⟨t159, A360, H⟩ := H
          replace H : (if t159.length + a1_2.size < 140737488355328 then ((varint_Put.f k (t159 ++ bytesOf a1_2) (IntKind.u64.wrap ((a1_3.size : Int)))).bind fun t165 => (if t165.length + a1_3.size < 140737488355328 then (some (t165 ++ bytesOf a1_3)) else (none))) else (none)) = some r := H
          have A36 := Aside0.mk A360
          clear A360
          by_cases c37 : t159.length + a1_2.size < 140737488355328
          · rw [if_pos c37] at H
            have LMc37 := Aside0.mk c37
            clear c37
            obtain ⟨y162, hy162⟩ : ∃ y_ : List Int, y_ = (t159 ++ bytesOf a1_2) := ⟨_, rfl⟩
            replace H : ((varint_Put.f k y162 (IntKind.u64.wrap ((a1_3.size : Int)))).bind fun t165 => (if t165.length + a1_3.size < 140737488355328 then (some (t165 ++ bytesOf a1_3)) else (none))) = some r := by first | (rw [hy162]; with_reducible exact H) | (have H2_ := (Option.bind_some _ _).symm.trans H; rw [hy162]; with_reducible exact H2_) | (have H2_ := (Option.bind_some _ _).symm.trans H; with_reducible exact H2_) | with_reducible exact H | (rw [hy162]; exact H) | exact H
            have Ny162 := Aside0.mk hy162
            clear hy162
            replace H := Option.bind_eq_some_iff.mp H
            obtain ⟨t165, A380, H⟩ := H
            replace H : (if t165.length + a1_3.size < 140737488355328 then (some (t165 ++ bytesOf a1_3)) else (none)) = some r := H
            have A38 := Aside0.mk A380
            clear A380
            by_cases c39 : t165.length + a1_3.size < 140737488355328
            · rw [if_pos c39] at H
              have LMc39 := Aside0.mk c39
              clear c39
              obtain ⟨y168, hy168⟩ : ∃ y_ : List Int, y_ = (t165 ++ bytesOf a1_3) := ⟨_, rfl⟩
              replace H : (some y168) = some r := by first | (rw [hy168]; with_reducible exact H) | (have H2_ := (Option.bind_some _ _).symm.trans H; rw [hy168]; with_reducible exact H2_) | (have H2_ := (Option.bind_some _ _).symm.trans H; with_reducible exact H2_) | with_reducible exact H | (rw [hy168]; exact H) | exact H
              have Ny168 := Aside0.mk hy168
              clear hy168
              obtain rfl := Option.some.inj H
              go_enter Try.func44, Try.ntmps44
              try go_wp2_with (first | ((with_reducible refine gate_dst (N := 3) rfl ?_); refine box_event ?hg (N := 3) ?hd (cs := #[.int .i64 a1_0, .int .i64 a1_1, .string a1_2, .string a1_3, .bool false]) (t := 34) ?hr ?_; (case hd => rfl); (case hg => rfl); (case hr => first | (go_simp; done) | (go_simp; rfl)); intro gb129 hg w40 hbox hb; have n0_ := Aside0.mk (vT (by repeat (first | (with_reducible first | exact HB.out | apply vA | apply vN | apply vD) | exact HB.out)) hb); have n1_ := Aside0.mk (hbox); have n2_ := Aside0.mk ((by rw [hg]; exact (vZ (by repeat (first | (with_reducible first | exact HB.out | apply vA | apply vN | apply vD) | exact HB.out))) : w.heap.size ≤ gb129)); have n3_ := Aside0.mk ((by rw [hg]; exact (vZ (by repeat (first | (with_reducible first | exact HB.out | apply vA | apply vN | apply vD) | exact HB.out))) : w.heap.size ≤ gb129)); clear HB; have HB := n0_; have BK129 := n1_; have GW129 := n2_; have GE129 := n3_; clear n0_ n1_ n2_ n3_; clear hb hbox hg) | ((with_reducible refine gate_builtin (b := .append) (xs := #[(.const (.slice none 0 0)), .tmp 7]) rfl ?_); at_builtin; refine Kd.R_append_rows (Kd.int .u8) (w0 := w) w.heap.size rfl (.const (.slice none 0 0)) (.tmp 7) 37 5 (.int .u8 0) 1 rfl Try.underlying37 info5 rfl (by decide) (by omega) (.slice none 0 0) ([] : List Int) l0 _ _ _ (fun _ => True) (fun _ => False) rfl rfl ?aO ?aR (fun _ _ h => h) (fun _ h => h.elim) ?aF ?aB ?aS ?aL ?_; (case aR => repeat (first | exact (Kd.C_below HR0.out HB.out) | (with_reducible refine Kd.C_alloc ?_ _) | (with_reducible refine Kd.C_drewN ?_ _) | (with_reducible refine Kd.C_drew ?_))); (case aB => exact (by repeat (first | (with_reducible first | exact HB.out | apply vA | apply vN | apply vD | refine vS ?_ GE129.out) | exact HB.out))); (case aF => exact (fun _ _ => trivial)); (case aO => exact ((Kd.R_nil _ _ _ _ (fun _ => True)))); (case aS => exact (vZ (by repeat (first | (with_reducible first | exact HB.out | apply vA | apply vN | apply vD | refine vS ?_ GE129.out) | exact HB.out)))); (case aL => have := LMc3.out; omega); intro v131 w41 ho hb hg hat; rw [← Ny130.out] at ho; have n0_ := Aside0.mk (blk_grown (g := gb129) (o := .cells #[.int .i64 a1_0, .int .i64 a1_1, .string a1_2, .string a1_3, .bool false] 34 (0, 0)) (by (with_reducible repeat (first | refine bN ?_ _ | refine bD ?_ | refine bA ?_ _)); exact BK129.out) hg (by simp [Value.ownBlock])); have n1_ := Aside0.mk (hb); have n2_ := Aside0.mk (ho); clear BK129; clear HB; have BK129 := n0_; have HB := n1_; have HO132 := n2_; clear n0_ n1_ n2_; clear ho hb hg hat; have hcz42_0 : w41.cell? ⟨gb129, 0, none⟩ = some (.int .i64 a1_0) := (bC BK129.out 0).trans rfl; have hcz42_1 : w41.cell? ⟨gb129, 1, none⟩ = some (.int .i64 a1_1) := (bC BK129.out 1).trans rfl; have hcz42_2 : w41.cell? ⟨gb129, 2, none⟩ = some (.string a1_2) := (bC BK129.out 2).trans rfl; have hcz42_3 : w41.cell? ⟨gb129, 3, none⟩ = some (.string a1_3) := (bC BK129.out 3).trans rfl; have hcz42_4 : w41.cell? ⟨gb129, 4, none⟩ = some (.bool false) := (bC BK129.out 4).trans rfl; have hfz42_0 := bF BK129.out 0; have hfz42_1 := bF BK129.out 1; have hfz42_2 := bF BK129.out 2; have hfz42_3 := bF BK129.out 3; have hfz42_4 := bF BK129.out 4) | ((with_reducible refine gate_callee (f := 36) rfl ?_); refine goesL_ (some 10) rfl rfl Try.func36 (by kernel_rfl) rfl #[.agg #[.int .i64 a1_0, .int .i64 a1_1, .string a1_2, .string a1_3, .bool false]] rfl (by (try simp only [List.map_toArray, List.map_cons, List.map_nil]); first | done | rfl | (simp only [List.length_drop, List.length_take]; rfl)) ?_; (with_reducible refine (record_Right.calls a1_0 a1_1 a1_2 a1_3 false true _ A4.out).mono ?_); rintro e w43 ⟨rfl, hb⟩; refine ⟨_, rfl, ?_⟩; have n0_ := Aside0.mk (Kd.RB (by (with_reducible repeat (first | apply Kd.RA | apply Kd.RN | apply Kd.RD)); exact HO132.out) hb); have n1_ := Aside0.mk (bB (g := gb129) (o := .cells #[.int .i64 a1_0, .int .i64 a1_1, .string a1_2, .string a1_3, .bool false] 34 (0, 0)) (by (with_reducible repeat (first | refine bN ?_ _ | refine bD ?_ | refine bA ?_ _)); exact BK129.out) hb); have n2_ := Aside0.mk (vT (by repeat (first | (with_reducible first | exact HB.out | apply vA | apply vN | apply vD | refine vS ?_ GE129.out) | exact HB.out)) hb); clear HO132; clear BK129; clear HB; have HO132 := n0_; have BK129 := n1_; have HB := n2_; clear n0_ n1_ n2_; (try clear hb); (try clear hb2); (try clear hk); (try clear hi); have hcz44_0 : w43.cell? ⟨gb129, 0, none⟩ = some (.int .i64 a1_0) := (bC BK129.out 0).trans rfl; have hcz44_1 : w43.cell? ⟨gb129, 1, none⟩ = some (.int .i64 a1_1) := (bC BK129.out 1).trans rfl; have hcz44_2 : w43.cell? ⟨gb129, 2, none⟩ = some (.string a1_2) := (bC BK129.out 2).trans rfl; have hcz44_3 : w43.cell? ⟨gb129, 3, none⟩ = some (.string a1_3) := (bC BK129.out 3).trans rfl; have hcz44_4 : w43.cell? ⟨gb129, 4, none⟩ = some (.bool false) := (bC BK129.out 4).trans rfl; have hfz44_0 := bF BK129.out 0; have hfz44_1 := bF BK129.out 1; have hfz44_2 := bF BK129.out 2; have hfz44_3 := bF BK129.out 3; have hfz44_4 := bF BK129.out 4; obtain ⟨Ao45, co45, eo45⟩ := Kd.R_slice HO132.out; subst eo45) | ((with_reducible refine gate_callee (f := 67) rfl ?_); refine goesL_ (some 17) rfl rfl Try.func67 (by kernel_rfl) rfl #[.slice Ao45 y130.length co45, .int .u64 (IntKind.u64.wrap (a1_0))] rfl (by (try simp only [List.map_toArray, List.map_cons, List.map_nil]); first | done | rfl | (simp only [List.length_drop, List.length_take]; rfl)) ?_; (with_reducible refine (varint_Put.calls k _ _ y130 (IntKind.u64.wrap (a1_0)) t134 _ ?side1 ?side2 A6.out).mono ?_); (case side1 => repeat (first | exact (Kd.R_reads' HO132.out).2.2 | (with_reducible refine Kd.C_alloc ?_ _) | (with_reducible refine Kd.C_drewN ?_ _) | (with_reducible refine Kd.C_drew ?_))); (case side2 => exact (Kd.R_reads' HO132.out).2.1); rintro e w46 ⟨v135, rfl, ho0, hb⟩; refine ⟨_, rfl, ?_⟩; have n0_ := Aside0.mk (Kd.R_elder' (by (with_reducible repeat (first | apply Kd.RA | apply Kd.RN | apply Kd.RD)); exact HO132.out) (Kd.R_base ho0) hb); have n1_ := Aside0.mk (Kd.RL (Kd.R_new' ho0 (Kd.R_lt (by (with_reducible repeat (first | apply Kd.RA | apply Kd.RN | apply Kd.RD)); exact HO132.out))) (vZ (by repeat (first | (with_reducible first | exact HB.out | apply vA | apply vN | apply vD | refine vS ?_ GE129.out) | exact HB.out)))); have n2_ := Aside0.mk (bB (g := gb129) (o := .cells #[.int .i64 a1_0, .int .i64 a1_1, .string a1_2, .string a1_3, .bool false] 34 (0, 0)) (by (with_reducible repeat (first | refine bN ?_ _ | refine bD ?_ | refine bA ?_ _)); exact BK129.out) hb); have n3_ := Aside0.mk (vT (by repeat (first | (with_reducible first | exact HB.out | apply vA | apply vN | apply vD | refine vS ?_ GE129.out) | exact HB.out)) hb); clear HO132; clear BK129; clear HB; have HO132 := n0_; have HO136 := n1_; have BK129 := n2_; have HB := n3_; clear n0_ n1_ n2_ n3_; (try clear hb); (try clear hb2); (try clear hk); (try clear hi); (try clear ho0); have hcz47_0 : w46.cell? ⟨gb129, 0, none⟩ = some (.int .i64 a1_0) := (bC BK129.out 0).trans rfl; have hcz47_1 : w46.cell? ⟨gb129, 1, none⟩ = some (.int .i64 a1_1) := (bC BK129.out 1).trans rfl; have hcz47_2 : w46.cell? ⟨gb129, 2, none⟩ = some (.string a1_2) := (bC BK129.out 2).trans rfl; have hcz47_3 : w46.cell? ⟨gb129, 3, none⟩ = some (.string a1_3) := (bC BK129.out 3).trans rfl; have hcz47_4 : w46.cell? ⟨gb129, 4, none⟩ = some (.bool false) := (bC BK129.out 4).trans rfl; have hfz47_0 := bF BK129.out 0; have hfz47_1 := bF BK129.out 1; have hfz47_2 := bF BK129.out 2; have hfz47_3 := bF BK129.out 3; have hfz47_4 := bF BK129.out 4) | ((with_reducible refine gate_callee (f := 68) rfl ?_); refine goesL_ (some 21) rfl rfl Try.func68 (by kernel_rfl) rfl #[.int .i64 a1_1] rfl (by (try simp only [List.map_toArray, List.map_cons, List.map_nil]); first | done | rfl | (simp only [List.length_drop, List.length_take]; rfl)) ?_; (with_reducible refine (varint_Fold.calls a1_1 t137 _ A7.out).mono ?_); rintro e w' ⟨rfl, ⟨nd, rfl⟩⟩; refine ⟨_, rfl, ?_⟩; obtain ⟨Ao48, co48, eo48⟩ := Kd.R_slice HO136.out; subst eo48) | ((with_reducible refine gate_callee (f := 67) rfl ?_); refine goesL_ (some 22) rfl rfl Try.func67 (by kernel_rfl) rfl #[.slice Ao48 t134.length co48, .int .u64 t137] rfl (by (try simp only [List.map_toArray, List.map_cons, List.map_nil]); first | done | rfl | (simp only [List.length_drop, List.length_take]; rfl)) ?_; (with_reducible refine (varint_Put.calls k _ _ t134 t137 t138 _ ?side1 ?side2 A8.out).mono ?_); (case side1 => repeat (first | exact (Kd.R_reads' HO136.out).2.2 | (with_reducible refine Kd.C_alloc ?_ _) | (with_reducible refine Kd.C_drewN ?_ _) | (with_reducible refine Kd.C_drew ?_))); (case side2 => exact (Kd.R_reads' HO136.out).2.1); rintro e w49 ⟨v139, rfl, ho0, hb⟩; refine ⟨_, rfl, ?_⟩; have n0_ := Aside0.mk (Kd.R_elder' (by (with_reducible repeat (first | apply Kd.RA | apply Kd.RN | apply Kd.RD)); exact HO132.out) (Kd.R_base ho0) hb); have n1_ := Aside0.mk (Kd.R_elder' (by (with_reducible repeat (first | apply Kd.RA | apply Kd.RN | apply Kd.RD)); exact HO136.out) (Kd.R_base ho0) hb); have n2_ := Aside0.mk (Kd.RL (Kd.R_new' (Kd.R_new' ho0 (Kd.R_lt (by (with_reducible repeat (first | apply Kd.RA | apply Kd.RN | apply Kd.RD)); exact HO132.out))) (Kd.R_lt (by (with_reducible repeat (first | apply Kd.RA | apply Kd.RN | apply Kd.RD)); exact HO136.out))) (vZ (by repeat (first | (with_reducible first | exact HB.out | apply vA | apply vN | apply vD | refine vS ?_ GE129.out) | exact HB.out)))); have n3_ := Aside0.mk (bB (g := gb129) (o := .cells #[.int .i64 a1_0, .int .i64 a1_1, .string a1_2, .string a1_3, .bool false] 34 (0, 0)) (by (with_reducible repeat (first | refine bN ?_ _ | refine bD ?_ | refine bA ?_ _)); exact BK129.out) hb); have n4_ := Aside0.mk (vT (by repeat (first | (with_reducible first | exact HB.out | apply vA | apply vN | apply vD | refine vS ?_ GE129.out) | exact HB.out)) hb); clear HO132; clear HO136; clear BK129; clear HB; have HO132 := n0_; have HO136 := n1_; have HO140 := n2_; have BK129 := n3_; have HB := n4_; clear n0_ n1_ n2_ n3_ n4_; (try clear hb); (try clear hb2); (try clear hk); (try clear hi); (try clear ho0); have hcz50_0 : w49.cell? ⟨gb129, 0, none⟩ = some (.int .i64 a1_0) := (bC BK129.out 0).trans rfl; have hcz50_1 : w49.cell? ⟨gb129, 1, none⟩ = some (.int .i64 a1_1) := (bC BK129.out 1).trans rfl; have hcz50_2 : w49.cell? ⟨gb129, 2, none⟩ = some (.string a1_2) := (bC BK129.out 2).trans rfl; have hcz50_3 : w49.cell? ⟨gb129, 3, none⟩ = some (.string a1_3) := (bC BK129.out 3).trans rfl; have hcz50_4 : w49.cell? ⟨gb129, 4, none⟩ = some (.bool false) := (bC BK129.out 4).trans rfl; have hfz50_0 := bF BK129.out 0; have hfz50_1 := bF BK129.out 1; have hfz50_2 := bF BK129.out 2; have hfz50_3 := bF BK129.out 3; have hfz50_4 := bF BK129.out 4) | ((with_reducible refine gate_builtin (b := .append) (xs := #[(.tmp 25), .tmp 27]) rfl ?_); at_builtin; refine Kd.R_append (Kd.int .u8) (w0 := w) w.heap.size rfl (.tmp 25) (.tmp 27) 37 5 (.int .u8 0) 1 rfl Try.underlying37 info5 rfl (by decide) (by omega) v139 t138 0 [.int .u8 0] (fun k_ => some k_ ≠ (.slice Ao45 y130.length co45 : Value).ownBlock ∧ some k_ ≠ (.slice Ao48 t134.length co48 : Value).ownBlock) (fun _ => False) rfl rfl ?aP (fun _ hk => hk.elim) ?aF ?aO ?aB ?aS ?aL ?_; (case aP => exact rfl); (case aB => exact (by repeat (first | (with_reducible first | exact HB.out | apply vA | apply vN | apply vD | refine vS ?_ GE129.out) | exact HB.out))); (case aF => exact (fun k_ hk => ⟨Kd.fresh' (Kd.R_lt (by (with_reducible repeat (first | apply Kd.RA | apply Kd.RN | apply Kd.RD)); exact HO132.out)) k_ hk, Kd.fresh' (Kd.R_lt (by (with_reducible repeat (first | apply Kd.RA | apply Kd.RN | apply Kd.RD)); exact HO136.out)) k_ hk⟩)); (case aO => exact (by (with_reducible repeat (first | apply Kd.RA | apply Kd.RN | apply Kd.RD)); exact Kd.RM HO140.out (fun _ hk => ⟨hk.1.2, hk.2⟩))); (case aS => exact (vZ (by repeat (first | (with_reducible first | exact HB.out | apply vA | apply vN | apply vD | refine vS ?_ GE129.out) | exact HB.out)))); (case aL => have := LMc35.out; omega); intro v157 w51 ho hb hg hat; rw [← Ny156.out] at ho; have n0_ := Aside0.mk (blk_grown (g := gb129) (o := .cells #[.int .i64 a1_0, .int .i64 a1_1, .string a1_2, .string a1_3, .bool false] 34 (0, 0)) (by (with_reducible repeat (first | refine bN ?_ _ | refine bD ?_ | refine bA ?_ _)); exact BK129.out) hg (Kd.R_ne HO140.out BK129.out (by decide))); have n1_ := Aside0.mk (Kd.R_after (ok := (fun k_ => some k_ ≠ (.slice Ao48 t134.length co48 : Value).ownBlock)) (by (with_reducible repeat (first | apply Kd.RA | apply Kd.RN | apply Kd.RD)); exact Kd.RM HO132.out (fun _ hk => ⟨hk.1.2, hk.2⟩)) hg hat); have n2_ := Aside0.mk (Kd.R_after (ok := (fun k_ => some k_ ≠ (.slice Ao45 y130.length co45 : Value).ownBlock)) (by (with_reducible repeat (first | apply Kd.RA | apply Kd.RN | apply Kd.RD)); exact Kd.RM HO136.out (fun _ hk => ⟨hk.1.2, hk.2⟩)) hg hat); have n3_ := Aside0.mk (hb); have n4_ := Aside0.mk (ho); clear BK129; clear HO132; clear HO136; clear HB; clear HO140; have BK129 := n0_; have HO132 := n1_; have HO136 := n2_; have HB := n3_; have HO158 := n4_; clear n0_ n1_ n2_ n3_ n4_; clear ho hb hg hat))
              have n0_ := Aside0.mk (Kd.RD HO132.out)
              have n1_ := Aside0.mk (Kd.RD HO136.out)
              have n2_ := Aside0.mk (Kd.RD HO158.out)
              have n3_ := Aside0.mk (bD BK129.out)
              have n4_ := Aside0.mk (vD HB.out)
              clear HO132
              clear HO136
              clear HO158
              clear BK129
              clear HB
              have HO132 := n0_
              have HO136 := n1_
              have HO158 := n2_
              have BK129 := n3_
              have HB := n4_
              clear n0_ n1_ n2_ n3_ n4_
              obtain ⟨Ao53, co53, eo53⟩ := Kd.R_slice HO158.out
              (first | subst eo53 | (injection eo53 with f1_ f2_ f3_; have f4_ := f1_.symm; have f5_ := f3_.symm; clear f1_ f2_ f3_; subst f4_; subst f5_))
              refine start_ (n := 10) (S := fun w' => w'.cell? ⟨gb129, 0, none⟩ = some (.int .i64 a1_0) ∧ w'.cell? ⟨gb129, 1, none⟩ = some (.int .i64 a1_1) ∧ w'.cell? ⟨gb129, 2, none⟩ = some (.string a1_2) ∧ w'.cell? ⟨gb129, 3, none⟩ = some (.string a1_3) ∧ w'.cell? ⟨gb129, 4, none⟩ = some (.bool false)) (ds := []) #[false, false, false, false, false, false, false, false, false, false] (by kernel_rfl) rfl rfl ⟨(bC BK129.out 0).trans rfl, (bC BK129.out 1).trans rfl, (bC BK129.out 2).trans rfl, (bC BK129.out 3).trans rfl, (bC BK129.out 4).trans rfl⟩ (fun hHeld => ?_); refine with_tabW record_Put.tab10 record_Put.bits10 (fun HT_ HW_ => ?_)
              generalize w51.drew = w52 at HO132 HO136 HO158 BK129 HB hHeld ⊢
              refine pure_ (i := 0) (N := some 29) (v := ?_) (a' := ?_) #[true, false, false, false, false, false, false, false, false, false] rfl rfl (any_of HT_.out (by kernel_rfl)) (fun _ _ _ h => h) (Or.inl ⟨by rfl, ?_⟩) ?_ ?_
              rotate_left
              · intro w'
                go_simp
                with_reducible rfl
              rotate_left
              · simp only [Act.put, List.setIfInBounds_toArray, List.set_cons_zero, List.set_cons_succ, i64_w, i32_w]
                rfl
              refine pure_ (i := 1) (N := some 30) (v := ?_) (a' := ?_) #[true, true, false, false, false, false, false, false, false, false] rfl rfl (any_of HT_.out (by kernel_rfl)) (fun _ _ _ h => h) (Or.inl ⟨by rfl, ?_⟩) ?_ ?_
              rotate_left
              · intro w'
                go_simp
                with_reducible rfl
              rotate_left
              · simp only [Act.put, List.setIfInBounds_toArray, List.set_cons_zero, List.set_cons_succ, i64_w, i32_w]
                rfl
              refine pure_ (i := 6) (N := some 35) (v := ?_) (a' := ?_) #[true, true, false, false, false, false, true, false, false, false] rfl rfl (any_of HT_.out (by kernel_rfl)) (fun _ _ _ h => h) (Or.inl ⟨by rfl, ?_⟩) ?_ ?_
              rotate_left
              · intro w'
                go_simp
                with_reducible rfl
              rotate_left
              · simp only [Act.put, List.setIfInBounds_toArray, List.set_cons_zero, List.set_cons_succ, i64_w, i32_w]
                rfl
              refine take_ (i := 2) (N := some 31) (v := ?_) (a' := ?_) #[true, true, true, false, false, false, true, false, false, false] rfl rfl (take_ofW HT_.out HW_.out (by kernel_rfl)) (fun _ _ _ h => h) (Or.inl ⟨by rfl, ?_⟩) hHeld ?_ ?_
              rotate_left
              · rintro w' ⟨s0, s1, s2, s3, s4⟩
                go_simp
                with_reducible rfl
              rotate_left
              · simp only [Act.put, List.setIfInBounds_toArray, List.set_cons_zero, List.set_cons_succ, i64_w, i32_w]
                rfl
              refine pure_ (i := 3) (N := some 32) (v := ?_) (a' := ?_) #[true, true, true, true, false, false, true, false, false, false] rfl rfl (any_of HT_.out (by kernel_rfl)) (fun _ _ _ h => h) (Or.inl ⟨by rfl, ?_⟩) ?_ ?_
              rotate_left
              · intro w'
                go_simp
                with_reducible rfl
              rotate_left
              · simp only [Act.put, List.setIfInBounds_toArray, List.set_cons_zero, List.set_cons_succ, i64_w, i32_w]
                rfl
              refine pure_ (i := 4) (N := some 33) (v := ?_) (a' := ?_) #[true, true, true, true, true, false, true, false, false, false] rfl rfl (any_of HT_.out (by kernel_rfl)) (fun _ _ _ h => h) (Or.inl ⟨by rfl, ?_⟩) ?_ ?_
              rotate_left
              · intro w'
                go_simp
                with_reducible rfl
              rotate_left
              · simp only [Act.put, List.setIfInBounds_toArray, List.set_cons_zero, List.set_cons_succ, i64_w, i32_w]
                rfl
              refine take_ (i := 7) (N := some 36) (v := ?_) (a' := ?_) #[true, true, true, true, true, false, true, true, false, false] rfl rfl (take_ofW HT_.out HW_.out (by kernel_rfl)) (fun _ _ _ h => h) (Or.inl ⟨by rfl, ?_⟩) hHeld ?_ ?_
              rotate_left
              · rintro w' ⟨s0, s1, s2, s3, s4⟩
                go_simp
                with_reducible rfl
              rotate_left
              · simp only [Act.put, List.setIfInBounds_toArray, List.set_cons_zero, List.set_cons_succ, i64_w, i32_w]
                rfl
              refine one_ (i := 5) (N := some 34) #[true, true, true, true, true, true, true, true, false, false] rfl rfl (one_of HT_.out (by kernel_rfl)) (by decide) (fun K hK => ?_)
              refine goes_ Try.func67 (by kernel_rfl) rfl #[.slice Ao53 y156.length co53, .int .u64 (IntKind.u64.wrap ((a1_2.size : Int)))] (by rfl) rfl rfl (by (try simp only [List.map_toArray, List.map_cons, List.map_nil]); first | done | rfl | (simp only [List.length_drop, List.length_take]; rfl)) ?_
              with_reducible refine (varint_Put.calls k _ _ y156 (IntKind.u64.wrap ((a1_2.size : Int))) t159 _ ?side1 ?side2 A36.out).mono ?_
              (case side1 => repeat (first | exact (Kd.R_reads' HO158.out).2.2 | (with_reducible refine Kd.C_alloc ?_ _) | (with_reducible refine Kd.C_drewN ?_ _) | (with_reducible refine Kd.C_drew ?_)))
              (case side2 => exact (Kd.R_reads' HO158.out).2.1)
              rintro e w54 ⟨v160, rfl, ho0, hb⟩
              refine ⟨_, rfl, ?_⟩
              have n0_ := Aside0.mk (Kd.R_elder' (by (with_reducible repeat (first | apply Kd.RA | apply Kd.RN | apply Kd.RD)); exact HO132.out) (Kd.R_base ho0) hb)
              have n1_ := Aside0.mk (Kd.R_elder' (by (with_reducible repeat (first | apply Kd.RA | apply Kd.RN | apply Kd.RD)); exact HO136.out) (Kd.R_base ho0) hb)
              have n2_ := Aside0.mk (Kd.R_elder' (by (with_reducible repeat (first | apply Kd.RA | apply Kd.RN | apply Kd.RD)); exact HO158.out) (Kd.R_base ho0) hb)
              have n3_ := Aside0.mk (Kd.RL (Kd.R_new' (Kd.R_new' (Kd.R_new' ho0 (Kd.R_lt (by (with_reducible repeat (first | apply Kd.RA | apply Kd.RN | apply Kd.RD)); exact HO132.out))) (Kd.R_lt (by (with_reducible repeat (first | apply Kd.RA | apply Kd.RN | apply Kd.RD)); exact HO136.out))) (Kd.R_lt (by (with_reducible repeat (first | apply Kd.RA | apply Kd.RN | apply Kd.RD)); exact HO158.out))) (vZ (by repeat (first | (with_reducible first | exact HB.out | apply vA | apply vN | apply vD | refine vS ?_ GE129.out) | exact HB.out))))
              have n4_ := Aside0.mk (bB (g := gb129) (o := .cells #[.int .i64 a1_0, .int .i64 a1_1, .string a1_2, .string a1_3, .bool false] 34 (0, 0)) (by (with_reducible repeat (first | refine bN ?_ _ | refine bD ?_ | refine bA ?_ _)); exact BK129.out) hb)
              have n5_ := Aside0.mk (vT (by repeat (first | (with_reducible first | exact HB.out | apply vA | apply vN | apply vD | refine vS ?_ GE129.out) | exact HB.out)) hb)
              clear HO132
              clear HO136
              clear HO158
              clear BK129
              clear HB
              have HO132 := n0_
              have HO136 := n1_
              have HO158 := n2_
              have HO161 := n3_
              have BK129 := n4_
              have HB := n5_
              clear n0_ n1_ n2_ n3_ n4_ n5_
              (try clear hb)
              (try clear hb2)
              (try clear hk)
              (try clear hi)
              (try clear ho0)
              refine hK.out _ _ ⟨(bC BK129.out 0).trans rfl, (bC BK129.out 1).trans rfl, (bC BK129.out 2).trans rfl, (bC BK129.out 3).trans rfl, (bC BK129.out 4).trans rfl⟩ (fun hHeld => ?_)
              clear hK K
              refine norm_ (a' := ?_) ?_ ?_
              rotate_left
              · show Act.put _ (some 34) _ = _
                simp only [Act.put, List.setIfInBounds_toArray, List.set_cons_zero, List.set_cons_succ, i64_w, i32_w]
                rfl
              refine one_ (i := 8) (N := some 37) #[true, true, true, true, true, true, true, true, true, false] rfl rfl (one_of HT_.out (by kernel_rfl)) (by decide) (fun K hK => ?_)
              refine R_append_str_step (w0 := w) w.heap.size (by rfl) (.tmp 34) _ 37 9 5 rfl Try.underlying37 Try.underlying9 info5 v160 t159 a1_2 (fun k_ => some k_ ≠ (.slice Ao45 y130.length co45 : Value).ownBlock ∧ some k_ ≠ (.slice Ao48 t134.length co48 : Value).ownBlock ∧ some k_ ≠ (.slice Ao53 y156.length co53 : Value).ownBlock) rfl rfl ?aO ?aF ?aB ?aS ?aL ?_
              (case aB => exact (by repeat (first | (with_reducible first | exact HB.out | apply vA | apply vN | apply vD | refine vS ?_ GE129.out) | exact HB.out)))
              (case aF => exact (fun k_ hk => ⟨Kd.fresh' (Kd.R_lt (by (with_reducible repeat (first | apply Kd.RA | apply Kd.RN | apply Kd.RD)); exact HO132.out)) k_ hk, Kd.fresh' (Kd.R_lt (by (with_reducible repeat (first | apply Kd.RA | apply Kd.RN | apply Kd.RD)); exact HO136.out)) k_ hk, Kd.fresh' (Kd.R_lt (by (with_reducible repeat (first | apply Kd.RA | apply Kd.RN | apply Kd.RD)); exact HO158.out)) k_ hk⟩))
              (case aO => exact (by (with_reducible repeat (first | apply Kd.RA | apply Kd.RN | apply Kd.RD)); exact Kd.RM HO161.out (fun _ hk => ⟨hk.1.1.2, ⟨hk.1.2, hk.2⟩⟩)))
              (case aS => exact (vZ (by repeat (first | (with_reducible first | exact HB.out | apply vA | apply vN | apply vD | refine vS ?_ GE129.out) | exact HB.out))))
              (case aL => have := LMc37.out; omega)
              intro v163 w55 ho hb hg hat
              rw [← Ny162.out] at ho
              have n0_ := Aside0.mk (blk_grown (g := gb129) (o := .cells #[.int .i64 a1_0, .int .i64 a1_1, .string a1_2, .string a1_3, .bool false] 34 (0, 0)) (by (with_reducible repeat (first | refine bN ?_ _ | refine bD ?_ | refine bA ?_ _)); exact BK129.out) hg (Kd.R_ne HO161.out BK129.out (by decide)))
              have n1_ := Aside0.mk (Kd.R_after (ok := (fun k_ => some k_ ≠ (.slice Ao48 t134.length co48 : Value).ownBlock ∧ some k_ ≠ (.slice Ao53 y156.length co53 : Value).ownBlock)) (by (with_reducible repeat (first | apply Kd.RA | apply Kd.RN | apply Kd.RD)); exact HO132.out) hg hat)
              have n2_ := Aside0.mk (Kd.R_after (ok := (fun k_ => some k_ ≠ (.slice Ao45 y130.length co45 : Value).ownBlock ∧ some k_ ≠ (.slice Ao53 y156.length co53 : Value).ownBlock)) (by (with_reducible repeat (first | apply Kd.RA | apply Kd.RN | apply Kd.RD)); exact HO136.out) hg hat)
              have n3_ := Aside0.mk (Kd.R_after (ok := (fun k_ => some k_ ≠ (.slice Ao45 y130.length co45 : Value).ownBlock ∧ some k_ ≠ (.slice Ao48 t134.length co48 : Value).ownBlock)) (by (with_reducible repeat (first | apply Kd.RA | apply Kd.RN | apply Kd.RD)); exact HO158.out) hg hat)
              have n4_ := Aside0.mk (hb)
              have n5_ := Aside0.mk (ho)
              clear BK129
              clear HO132
              clear HO136
              clear HO158
              clear HB
              clear HO161
              have BK129 := n0_
              have HO132 := n1_
              have HO136 := n2_
              have HO158 := n3_
              have HB := n4_
              have HO164 := n5_
              clear n0_ n1_ n2_ n3_ n4_ n5_
              clear ho hb hg hat
              refine hK.out _ _ ⟨(bC BK129.out 0).trans rfl, (bC BK129.out 1).trans rfl, (bC BK129.out 2).trans rfl, (bC BK129.out 3).trans rfl, (bC BK129.out 4).trans rfl⟩ (fun hHeld => ?_)
              clear hK K
              refine norm_ (a' := ?_) ?_ ?_
              rotate_left
              · show Act.put _ (some 37) _ = _
                simp only [Act.put, List.setIfInBounds_toArray, List.set_cons_zero, List.set_cons_succ, i64_w, i32_w]
                rfl
              refine pure_ (i := 9) (N := some 5) (v := ?_) (a' := ?_) #[true, true, true, true, true, true, true, true, true, true] rfl rfl (any_of HT_.out (by kernel_rfl)) (fun _ _ _ h => h) (Or.inl ⟨by rfl, ?_⟩) ?_ ?_
              rotate_left
              · intro w'
                go_simp
                with_reducible rfl
              rotate_left
              · simp only [Act.put, List.setIfInBounds_toArray, List.set_cons_zero, List.set_cons_succ, i64_w, i32_w]
                rfl
              refine done_ (done_of HT_.out (by kernel_rfl)) ?_
              try go_wp2
              have n0_ := Aside0.mk (Kd.RD HO132.out)
              have n1_ := Aside0.mk (Kd.RD HO136.out)
              have n2_ := Aside0.mk (Kd.RD HO158.out)
              have n3_ := Aside0.mk (Kd.RD HO164.out)
              have n4_ := Aside0.mk (bD BK129.out)
              have n5_ := Aside0.mk (vD HB.out)
              clear HO132
              clear HO136
              clear HO158
              clear HO164
              clear BK129
              clear HB
              have HO132 := n0_
              have HO136 := n1_
              have HO158 := n2_
              have HO164 := n3_
              have BK129 := n4_
              have HB := n5_
              clear n0_ n1_ n2_ n3_ n4_ n5_
              obtain ⟨Ao57, co57, eo57⟩ := Kd.R_slice HO164.out
              (first | subst eo57 | (injection eo57 with f1_ f2_ f3_; have f4_ := f1_.symm; have f5_ := f3_.symm; clear f1_ f2_ f3_; subst f4_; subst f5_))
              refine start_ (n := 10) (S := fun w' => w'.cell? ⟨gb129, 0, none⟩ = some (.int .i64 a1_0) ∧ w'.cell? ⟨gb129, 1, none⟩ = some (.int .i64 a1_1) ∧ w'.cell? ⟨gb129, 2, none⟩ = some (.string a1_2) ∧ w'.cell? ⟨gb129, 3, none⟩ = some (.string a1_3) ∧ w'.cell? ⟨gb129, 4, none⟩ = some (.bool false)) (ds := []) #[false, false, false, false, false, false, false, false, false, false] (by kernel_rfl) rfl rfl ⟨(bC BK129.out 0).trans rfl, (bC BK129.out 1).trans rfl, (bC BK129.out 2).trans rfl, (bC BK129.out 3).trans rfl, (bC BK129.out 4).trans rfl⟩ (fun hHeld => ?_); refine with_tabW record_Put.tab11 record_Put.bits11 (fun HT_ HW_ => ?_)
              generalize w55.drew = w56 at HO132 HO136 HO158 HO164 BK129 HB hHeld ⊢
              refine pure_ (i := 0) (N := some 38) (v := ?_) (a' := ?_) #[true, false, false, false, false, false, false, false, false, false] rfl rfl (any_of HT_.out (by kernel_rfl)) (fun _ _ _ h => h) (Or.inl ⟨by rfl, ?_⟩) ?_ ?_
              rotate_left
              · intro w'
                go_simp
                with_reducible rfl
              rotate_left
              · simp only [Act.put, List.setIfInBounds_toArray, List.set_cons_zero, List.set_cons_succ, i64_w, i32_w]
                rfl
              refine pure_ (i := 1) (N := some 39) (v := ?_) (a' := ?_) #[true, true, false, false, false, false, false, false, false, false] rfl rfl (any_of HT_.out (by kernel_rfl)) (fun _ _ _ h => h) (Or.inl ⟨by rfl, ?_⟩) ?_ ?_
              rotate_left
              · intro w'
                go_simp
                with_reducible rfl
              rotate_left
              · simp only [Act.put, List.setIfInBounds_toArray, List.set_cons_zero, List.set_cons_succ, i64_w, i32_w]
                rfl
              refine pure_ (i := 6) (N := some 44) (v := ?_) (a' := ?_) #[true, true, false, false, false, false, true, false, false, false] rfl rfl (any_of HT_.out (by kernel_rfl)) (fun _ _ _ h => h) (Or.inl ⟨by rfl, ?_⟩) ?_ ?_
              rotate_left
              · intro w'
                go_simp
                with_reducible rfl
              rotate_left
              · simp only [Act.put, List.setIfInBounds_toArray, List.set_cons_zero, List.set_cons_succ, i64_w, i32_w]
                rfl
              refine take_ (i := 2) (N := some 40) (v := ?_) (a' := ?_) #[true, true, true, false, false, false, true, false, false, false] rfl rfl (take_ofW HT_.out HW_.out (by kernel_rfl)) (fun _ _ _ h => h) (Or.inl ⟨by rfl, ?_⟩) hHeld ?_ ?_
              rotate_left
              · rintro w' ⟨s0, s1, s2, s3, s4⟩
                go_simp
                with_reducible rfl
              rotate_left
              · simp only [Act.put, List.setIfInBounds_toArray, List.set_cons_zero, List.set_cons_succ, i64_w, i32_w]
                rfl
              refine pure_ (i := 3) (N := some 41) (v := ?_) (a' := ?_) #[true, true, true, true, false, false, true, false, false, false] rfl rfl (any_of HT_.out (by kernel_rfl)) (fun _ _ _ h => h) (Or.inl ⟨by rfl, ?_⟩) ?_ ?_
              rotate_left
              · intro w'
                go_simp
                with_reducible rfl
              rotate_left
              · simp only [Act.put, List.setIfInBounds_toArray, List.set_cons_zero, List.set_cons_succ, i64_w, i32_w]
                rfl
              refine pure_ (i := 4) (N := some 42) (v := ?_) (a' := ?_) #[true, true, true, true, true, false, true, false, false, false] rfl rfl (any_of HT_.out (by kernel_rfl)) (fun _ _ _ h => h) (Or.inl ⟨by rfl, ?_⟩) ?_ ?_
              rotate_left
              · intro w'
                go_simp
                with_reducible rfl
              rotate_left
              · simp only [Act.put, List.setIfInBounds_toArray, List.set_cons_zero, List.set_cons_succ, i64_w, i32_w]
                rfl
              refine take_ (i := 7) (N := some 45) (v := ?_) (a' := ?_) #[true, true, true, true, true, false, true, true, false, false] rfl rfl (take_ofW HT_.out HW_.out (by kernel_rfl)) (fun _ _ _ h => h) (Or.inl ⟨by rfl, ?_⟩) hHeld ?_ ?_
              rotate_left
              · rintro w' ⟨s0, s1, s2, s3, s4⟩
                go_simp
                with_reducible rfl
              rotate_left
              · simp only [Act.put, List.setIfInBounds_toArray, List.set_cons_zero, List.set_cons_succ, i64_w, i32_w]
                rfl
              refine one_ (i := 5) (N := some 43) #[true, true, true, true, true, true, true, true, false, false] rfl rfl (one_of HT_.out (by kernel_rfl)) (by decide) (fun K hK => ?_)
              refine goes_ Try.func67 (by kernel_rfl) rfl #[.slice Ao57 y162.length co57, .int .u64 (IntKind.u64.wrap ((a1_3.size : Int)))] (by rfl) rfl rfl (by (try simp only [List.map_toArray, List.map_cons, List.map_nil]); first | done | rfl | (simp only [List.length_drop, List.length_take]; rfl)) ?_
              with_reducible refine (varint_Put.calls k _ _ y162 (IntKind.u64.wrap ((a1_3.size : Int))) t165 _ ?side1 ?side2 A38.out).mono ?_
              (case side1 => repeat (first | exact (Kd.R_reads' HO164.out).2.2 | (with_reducible refine Kd.C_alloc ?_ _) | (with_reducible refine Kd.C_drewN ?_ _) | (with_reducible refine Kd.C_drew ?_)))
              (case side2 => exact (Kd.R_reads' HO164.out).2.1)
              rintro e w58 ⟨v166, rfl, ho0, hb⟩
              refine ⟨_, rfl, ?_⟩
              have n0_ := Aside0.mk (Kd.R_elder' (by (with_reducible repeat (first | apply Kd.RA | apply Kd.RN | apply Kd.RD)); exact HO132.out) (Kd.R_base ho0) hb)
              have n1_ := Aside0.mk (Kd.R_elder' (by (with_reducible repeat (first | apply Kd.RA | apply Kd.RN | apply Kd.RD)); exact HO136.out) (Kd.R_base ho0) hb)
              have n2_ := Aside0.mk (Kd.R_elder' (by (with_reducible repeat (first | apply Kd.RA | apply Kd.RN | apply Kd.RD)); exact HO158.out) (Kd.R_base ho0) hb)
              have n3_ := Aside0.mk (Kd.R_elder' (by (with_reducible repeat (first | apply Kd.RA | apply Kd.RN | apply Kd.RD)); exact HO164.out) (Kd.R_base ho0) hb)
              have n4_ := Aside0.mk (Kd.RL (Kd.R_new' (Kd.R_new' (Kd.R_new' (Kd.R_new' ho0 (Kd.R_lt (by (with_reducible repeat (first | apply Kd.RA | apply Kd.RN | apply Kd.RD)); exact HO132.out))) (Kd.R_lt (by (with_reducible repeat (first | apply Kd.RA | apply Kd.RN | apply Kd.RD)); exact HO136.out))) (Kd.R_lt (by (with_reducible repeat (first | apply Kd.RA | apply Kd.RN | apply Kd.RD)); exact HO158.out))) (Kd.R_lt (by (with_reducible repeat (first | apply Kd.RA | apply Kd.RN | apply Kd.RD)); exact HO164.out))) (vZ (by repeat (first | (with_reducible first | exact HB.out | apply vA | apply vN | apply vD | refine vS ?_ GE129.out) | exact HB.out))))
              have n5_ := Aside0.mk (bB (g := gb129) (o := .cells #[.int .i64 a1_0, .int .i64 a1_1, .string a1_2, .string a1_3, .bool false] 34 (0, 0)) (by (with_reducible repeat (first | refine bN ?_ _ | refine bD ?_ | refine bA ?_ _)); exact BK129.out) hb)
              have n6_ := Aside0.mk (vT (by repeat (first | (with_reducible first | exact HB.out | apply vA | apply vN | apply vD | refine vS ?_ GE129.out) | exact HB.out)) hb)
              clear HO132
              clear HO136
              clear HO158
              clear HO164
              clear BK129
              clear HB
              have HO132 := n0_
              have HO136 := n1_
              have HO158 := n2_
              have HO164 := n3_
              have HO167 := n4_
              have BK129 := n5_
              have HB := n6_
              clear n0_ n1_ n2_ n3_ n4_ n5_ n6_
              (try clear hb)
              (try clear hb2)
              (try clear hk)
              (try clear hi)
              (try clear ho0)
              refine hK.out _ _ ⟨(bC BK129.out 0).trans rfl, (bC BK129.out 1).trans rfl, (bC BK129.out 2).trans rfl, (bC BK129.out 3).trans rfl, (bC BK129.out 4).trans rfl⟩ (fun hHeld => ?_)
              clear hK K
              refine norm_ (a' := ?_) ?_ ?_
              rotate_left
              · show Act.put _ (some 43) _ = _
                simp only [Act.put, List.setIfInBounds_toArray, List.set_cons_zero, List.set_cons_succ, i64_w, i32_w]
                rfl
              refine one_ (i := 8) (N := some 46) #[true, true, true, true, true, true, true, true, true, false] rfl rfl (one_of HT_.out (by kernel_rfl)) (by decide) (fun K hK => ?_)
              refine R_append_str_step (w0 := w) w.heap.size (by rfl) (.tmp 43) _ 37 9 5 rfl Try.underlying37 Try.underlying9 info5 v166 t165 a1_3 (fun k_ => some k_ ≠ (.slice Ao45 y130.length co45 : Value).ownBlock ∧ some k_ ≠ (.slice Ao48 t134.length co48 : Value).ownBlock ∧ some k_ ≠ (.slice Ao53 y156.length co53 : Value).ownBlock ∧ some k_ ≠ (.slice Ao57 y162.length co57 : Value).ownBlock) rfl rfl ?aO ?aF ?aB ?aS ?aL ?_
              (case aB => exact (by repeat (first | (with_reducible first | exact HB.out | apply vA | apply vN | apply vD | refine vS ?_ GE129.out) | exact HB.out)))
              (case aF => exact (fun k_ hk => ⟨Kd.fresh' (Kd.R_lt (by (with_reducible repeat (first | apply Kd.RA | apply Kd.RN | apply Kd.RD)); exact HO132.out)) k_ hk, Kd.fresh' (Kd.R_lt (by (with_reducible repeat (first | apply Kd.RA | apply Kd.RN | apply Kd.RD)); exact HO136.out)) k_ hk, Kd.fresh' (Kd.R_lt (by (with_reducible repeat (first | apply Kd.RA | apply Kd.RN | apply Kd.RD)); exact HO158.out)) k_ hk, Kd.fresh' (Kd.R_lt (by (with_reducible repeat (first | apply Kd.RA | apply Kd.RN | apply Kd.RD)); exact HO164.out)) k_ hk⟩))
              (case aO => exact (by (with_reducible repeat (first | apply Kd.RA | apply Kd.RN | apply Kd.RD)); exact Kd.RM HO167.out (fun _ hk => ⟨hk.1.1.1.2, ⟨hk.1.1.2, ⟨hk.1.2, hk.2⟩⟩⟩)))
              (case aS => exact (vZ (by repeat (first | (with_reducible first | exact HB.out | apply vA | apply vN | apply vD | refine vS ?_ GE129.out) | exact HB.out))))
              (case aL => have := LMc39.out; omega)
              intro v169 w59 ho hb hg hat
              rw [← Ny168.out] at ho
              have n0_ := Aside0.mk (blk_grown (g := gb129) (o := .cells #[.int .i64 a1_0, .int .i64 a1_1, .string a1_2, .string a1_3, .bool false] 34 (0, 0)) (by (with_reducible repeat (first | refine bN ?_ _ | refine bD ?_ | refine bA ?_ _)); exact BK129.out) hg (Kd.R_ne HO167.out BK129.out (by decide)))
              have n1_ := Aside0.mk (Kd.R_after (ok := (fun k_ => some k_ ≠ (.slice Ao48 t134.length co48 : Value).ownBlock ∧ some k_ ≠ (.slice Ao53 y156.length co53 : Value).ownBlock ∧ some k_ ≠ (.slice Ao57 y162.length co57 : Value).ownBlock)) (by (with_reducible repeat (first | apply Kd.RA | apply Kd.RN | apply Kd.RD)); exact Kd.RM HO132.out (fun _ hk => ⟨⟨hk.1.1.1, ⟨hk.1.1.2, hk.1.2⟩⟩, hk.2⟩)) hg hat)
              have n2_ := Aside0.mk (Kd.R_after (ok := (fun k_ => some k_ ≠ (.slice Ao45 y130.length co45 : Value).ownBlock ∧ some k_ ≠ (.slice Ao53 y156.length co53 : Value).ownBlock ∧ some k_ ≠ (.slice Ao57 y162.length co57 : Value).ownBlock)) (by (with_reducible repeat (first | apply Kd.RA | apply Kd.RN | apply Kd.RD)); exact Kd.RM HO136.out (fun _ hk => ⟨⟨hk.1.1.1, ⟨hk.1.1.2, hk.1.2⟩⟩, hk.2⟩)) hg hat)
              have n3_ := Aside0.mk (Kd.R_after (ok := (fun k_ => some k_ ≠ (.slice Ao45 y130.length co45 : Value).ownBlock ∧ some k_ ≠ (.slice Ao48 t134.length co48 : Value).ownBlock ∧ some k_ ≠ (.slice Ao57 y162.length co57 : Value).ownBlock)) (by (with_reducible repeat (first | apply Kd.RA | apply Kd.RN | apply Kd.RD)); exact Kd.RM HO158.out (fun _ hk => ⟨⟨hk.1.1.1, ⟨hk.1.1.2, hk.1.2⟩⟩, hk.2⟩)) hg hat)
              have n4_ := Aside0.mk (Kd.R_after (ok := (fun k_ => some k_ ≠ (.slice Ao45 y130.length co45 : Value).ownBlock ∧ some k_ ≠ (.slice Ao48 t134.length co48 : Value).ownBlock ∧ some k_ ≠ (.slice Ao53 y156.length co53 : Value).ownBlock)) (by (with_reducible repeat (first | apply Kd.RA | apply Kd.RN | apply Kd.RD)); exact HO164.out) hg hat)
              have n5_ := Aside0.mk (hb)
              have n6_ := Aside0.mk (ho)
              clear BK129
              clear HO132
              clear HO136
              clear HO158
              clear HO164
              clear HB
              clear HO167
              have BK129 := n0_
              have HO132 := n1_
              have HO136 := n2_
              have HO158 := n3_
              have HO164 := n4_
              have HB := n5_
              have HO170 := n6_
              clear n0_ n1_ n2_ n3_ n4_ n5_ n6_
              clear ho hb hg hat
              refine hK.out _ _ ⟨(bC BK129.out 0).trans rfl, (bC BK129.out 1).trans rfl, (bC BK129.out 2).trans rfl, (bC BK129.out 3).trans rfl, (bC BK129.out 4).trans rfl⟩ (fun hHeld => ?_)
              clear hK K
              refine norm_ (a' := ?_) ?_ ?_
              rotate_left
              · show Act.put _ (some 46) _ = _
                simp only [Act.put, List.setIfInBounds_toArray, List.set_cons_zero, List.set_cons_succ, i64_w, i32_w]
                rfl
              refine pure_ (i := 9) (N := some 4) (v := ?_) (a' := ?_) #[true, true, true, true, true, true, true, true, true, true] rfl rfl (any_of HT_.out (by kernel_rfl)) (fun _ _ _ h => h) (Or.inl ⟨by rfl, ?_⟩) ?_ ?_
              rotate_left
              · intro w'
                go_simp
                with_reducible rfl
              rotate_left
              · simp only [Act.put, List.setIfInBounds_toArray, List.set_cons_zero, List.set_cons_succ, i64_w, i32_w]
                rfl
              refine done_ (done_of HT_.out (by kernel_rfl)) ?_
              try go_wp2
              go_ret
              exact ⟨_, by first | rfl | (simp [*, eN, eS] <;> rfl) | (simp [eN, eS]; generalize ByteArray.toList _ = l_; cases l_ <;> rfl), by (with_reducible repeat (first | apply Kd.RA | apply Kd.RN | apply Kd.RD)); exact Kd.RM HO170.out (fun _ hk => trivial), by repeat (first | (with_reducible first | exact HB.out | apply vA | apply vN | apply vD | refine vS ?_ GE129.out) | exact HB.out)⟩
            · rw [if_neg c39] at H
              exact absurd H (by simp)
          · rw [if_neg c37] at H
            exact absurd H (by simp)
        · rw [if_neg c35] at H
          exact absurd H (by simp)
    · replace c5 := Bool.eq_false_iff.mpr c5
      subst c5
      have H1 : (some y130) = some r := by rw [if_neg (show ¬ (false = true) by decide)] at H; exact H
      clear H
      have H := H1
      clear H1
      obtain rfl := Option.some.inj H
      go_enter Try.func44, Try.ntmps44
      go_wp2_with (first | ((with_reducible refine gate_dst (N := 3) rfl ?_); refine box_event ?hg (N := 3) ?hd (cs := #[.int .i64 a1_0, .int .i64 a1_1, .string a1_2, .string a1_3, .bool a1_4]) (t := 34) ?hr ?_; (case hd => rfl); (case hg => rfl); (case hr => first | (go_simp; done) | (go_simp; rfl)); intro gb129 hg w60 hbox hb; have n0_ := Aside0.mk (vT (by repeat (first | (with_reducible first | exact HB.out | apply vA | apply vN | apply vD) | exact HB.out)) hb); have n1_ := Aside0.mk (hbox); have n2_ := Aside0.mk ((by rw [hg]; exact (vZ (by repeat (first | (with_reducible first | exact HB.out | apply vA | apply vN | apply vD) | exact HB.out))) : w.heap.size ≤ gb129)); have n3_ := Aside0.mk ((by rw [hg]; exact (vZ (by repeat (first | (with_reducible first | exact HB.out | apply vA | apply vN | apply vD) | exact HB.out))) : w.heap.size ≤ gb129)); clear HB; have HB := n0_; have BK129 := n1_; have GW129 := n2_; have GE129 := n3_; clear n0_ n1_ n2_ n3_; clear hb hbox hg) | ((with_reducible refine gate_builtin (b := .append) (xs := #[(.const (.slice none 0 0)), .tmp 7]) rfl ?_); at_builtin; refine Kd.R_append_rows (Kd.int .u8) (w0 := w) w.heap.size rfl (.const (.slice none 0 0)) (.tmp 7) 37 5 (.int .u8 0) 1 rfl Try.underlying37 info5 rfl (by decide) (by omega) (.slice none 0 0) ([] : List Int) l0 _ _ _ (fun _ => True) (fun _ => False) rfl rfl ?aO ?aR (fun _ _ h => h) (fun _ h => h.elim) ?aF ?aB ?aS ?aL ?_; (case aR => repeat (first | exact (Kd.C_below HR0.out HB.out) | (with_reducible refine Kd.C_alloc ?_ _) | (with_reducible refine Kd.C_drewN ?_ _) | (with_reducible refine Kd.C_drew ?_))); (case aB => exact (by repeat (first | (with_reducible first | exact HB.out | apply vA | apply vN | apply vD | refine vS ?_ GE129.out) | exact HB.out))); (case aF => exact (fun _ _ => trivial)); (case aO => exact ((Kd.R_nil _ _ _ _ (fun _ => True)))); (case aS => exact (vZ (by repeat (first | (with_reducible first | exact HB.out | apply vA | apply vN | apply vD | refine vS ?_ GE129.out) | exact HB.out)))); (case aL => have := LMc3.out; omega); intro v131 w61 ho hb hg hat; rw [← Ny130.out] at ho; have n0_ := Aside0.mk (blk_grown (g := gb129) (o := .cells #[.int .i64 a1_0, .int .i64 a1_1, .string a1_2, .string a1_3, .bool a1_4] 34 (0, 0)) (by (with_reducible repeat (first | refine bN ?_ _ | refine bD ?_ | refine bA ?_ _)); exact BK129.out) hg (by simp [Value.ownBlock])); have n1_ := Aside0.mk (hb); have n2_ := Aside0.mk (ho); clear BK129; clear HB; have BK129 := n0_; have HB := n1_; have HO132 := n2_; clear n0_ n1_ n2_; clear ho hb hg hat; have hcz62_0 : w61.cell? ⟨gb129, 0, none⟩ = some (.int .i64 a1_0) := (bC BK129.out 0).trans rfl; have hcz62_1 : w61.cell? ⟨gb129, 1, none⟩ = some (.int .i64 a1_1) := (bC BK129.out 1).trans rfl; have hcz62_2 : w61.cell? ⟨gb129, 2, none⟩ = some (.string a1_2) := (bC BK129.out 2).trans rfl; have hcz62_3 : w61.cell? ⟨gb129, 3, none⟩ = some (.string a1_3) := (bC BK129.out 3).trans rfl; have hcz62_4 : w61.cell? ⟨gb129, 4, none⟩ = some (.bool a1_4) := (bC BK129.out 4).trans rfl; have hfz62_0 := bF BK129.out 0; have hfz62_1 := bF BK129.out 1; have hfz62_2 := bF BK129.out 2; have hfz62_3 := bF BK129.out 3; have hfz62_4 := bF BK129.out 4) | ((with_reducible refine gate_callee (f := 36) rfl ?_); refine goesL_ (some 10) rfl rfl Try.func36 (by kernel_rfl) rfl #[.agg #[.int .i64 a1_0, .int .i64 a1_1, .string a1_2, .string a1_3, .bool a1_4]] rfl (by (try simp only [List.map_toArray, List.map_cons, List.map_nil]); first | done | rfl | (simp only [List.length_drop, List.length_take]; rfl)) ?_; (with_reducible refine (record_Right.calls a1_0 a1_1 a1_2 a1_3 a1_4 false _ A4.out).mono ?_); rintro e w63 ⟨rfl, hb⟩; refine ⟨_, rfl, ?_⟩; have n0_ := Aside0.mk (Kd.RB (by (with_reducible repeat (first | apply Kd.RA | apply Kd.RN | apply Kd.RD)); exact HO132.out) hb); have n1_ := Aside0.mk (bB (g := gb129) (o := .cells #[.int .i64 a1_0, .int .i64 a1_1, .string a1_2, .string a1_3, .bool a1_4] 34 (0, 0)) (by (with_reducible repeat (first | refine bN ?_ _ | refine bD ?_ | refine bA ?_ _)); exact BK129.out) hb); have n2_ := Aside0.mk (vT (by repeat (first | (with_reducible first | exact HB.out | apply vA | apply vN | apply vD | refine vS ?_ GE129.out) | exact HB.out)) hb); clear HO132; clear BK129; clear HB; have HO132 := n0_; have BK129 := n1_; have HB := n2_; clear n0_ n1_ n2_; (try clear hb); (try clear hb2); (try clear hk); (try clear hi)))
      go_ret
      exact ⟨_, by first | rfl | (simp [*, eN, eS] <;> rfl) | (simp [eN, eS]; generalize ByteArray.toList _ = l_; cases l_ <;> rfl), by (with_reducible repeat (first | apply Kd.RA | apply Kd.RN | apply Kd.RD)); exact HO132.out, by repeat (first | (with_reducible first | exact HB.out | apply vA | apply vN | apply vD | refine vS ?_ GE129.out) | exact HB.out)⟩
  · rw [if_neg c3] at H
    exact absurd H (by simp)

end Go.Proofs.Ytphnolgneojdhaa.V

-- printed by a program of this session (a changed copy of the kit's printer; squeeze.py)
import Derived.Test.YtphnolgneojdhaaVx0
import Derived.Test.YtphnolgneojdhaaVx6
namespace Go.Proofs.Ytphnolgneojdhaa.V
open Go.RowKit Go.Proofs.YtphnolgneojdhaaW.PrintWords Go.Proofs.YtphnolgneojdhaaW.PrintLast Go.Proofs.YtphnolgneojdhaaW.PrintMore
attribute [local go_sem] max2_int min2_int max_two min_two max_three min_three max_four min_four   -- for this text's walks alone
set_option linter.unusedVariables false
set_option linter.unusedSimpArgs false
/-! ### cooperageref1_PutRecord: function 38 -/
def cooperageref1_PutRecord.f (k : Nat) (l0 : List Int) (a1_0 : Int) (a1_1 : Int) (a1_2 : ByteArray) (a1_3 : ByteArray) (a1_4 : Bool) : Option (List Int) := if ([] : List Int).length + l0.length < 140737488355328 then ((some (([] : List Int) ++ l0 : List Int)).bind fun y247 => ((cooperageref1_Right.f a1_0 a1_1 a1_2 a1_3 a1_4).bind fun t250 => (if t250 = true then ((cooperageref1_Put.f k y247 (IntKind.u64.wrap (a1_0))).bind fun t251 => ((cooperageref1_Fold.f a1_1).bind fun t254 => ((cooperageref1_Put.f k t251 t254).bind fun t255 => (if a1_4 = true then (if t255.length < 140737488355328 then ((cooperageref1_Put.f k (t255 ++ [1]) (IntKind.u64.wrap ((a1_2.size : Int)))).bind fun t261 => (if t261.length + a1_2.size < 140737488355328 then ((cooperageref1_Put.f k (t261 ++ bytesOf a1_2) (IntKind.u64.wrap ((a1_3.size : Int)))).bind fun t267 => (if t267.length + a1_3.size < 140737488355328 then (some (t267 ++ bytesOf a1_3)) else (none))) else (none))) else (none)) else (if t255.length < 140737488355328 then ((cooperageref1_Put.f k (t255 ++ [0]) (IntKind.u64.wrap ((a1_2.size : Int)))).bind fun t276 => (if t276.length + a1_2.size < 140737488355328 then ((cooperageref1_Put.f k (t276 ++ bytesOf a1_2) (IntKind.u64.wrap ((a1_3.size : Int)))).bind fun t282 => (if t282.length + a1_3.size < 140737488355328 then (some (t282 ++ bytesOf a1_3)) else (none))) else (none))) else (none)))))) else (some y247)))) else (none)
theorem cooperageref1_PutRecord.mono : ∀ a0 a1 a2 a3 a4 a5 k, LeO (cooperageref1_PutRecord.f k a0 a1 a2 a3 a4 a5) (cooperageref1_PutRecord.f (k + 1) a0 a1 a2 a3 a4 a5) := by
  intro a0 a1 a2 a3 a4 a5 k
  unfold cooperageref1_PutRecord.f
  repeat' first
      | (with_reducible exact LeO.refl _)
      | (with_reducible exact LeO.none _)
      | (with_reducible refine LeO.ite ?_ ?_)
      | (with_reducible refine LeO.bind ?_ (fun _ => ?_))
      | exact cooperageref1_Put.mono _ _ _
      | exact LeO.none _
      | refine LeO.ite ?_ ?_
      | refine LeO.bind ?_ (fun _ => ?_)
def cooperageref1_PutRecord.T9 : Bool × List (List Nat × List Nat) := (true, [([], []), ([], []), ([1], [1]), ([2], [2]), ([3], [3]), ([0, 4], [0, 4]), ([], []), ([6], [6]), ([5, 7, 5], [5, 7]), ([8, 8, 0, 1, 2, 3, 4, 5, 6, 7, 8], [0, 8])])
def cooperageref1_PutRecord.B9 : List Nat := [0, 0, 2, 6, 14, 31, 0, 64, 255, 511]
theorem cooperageref1_PutRecord.tab9 : rtab .any (opsOf Try.f38 9) = cooperageref1_PutRecord.T9 := by kernel_rfl
theorem cooperageref1_PutRecord.bits9 : waitsOk cooperageref1_PutRecord.T9.2 cooperageref1_PutRecord.B9 = true := by kernel_rfl
def cooperageref1_PutRecord.T10 : Bool × List (List Nat × List Nat) := (true, [([], []), ([], []), ([1], [1]), ([2], [2]), ([3], [3]), ([0, 4], [0, 4]), ([], []), ([6], [6]), ([5, 7, 5], [5, 7]), ([8, 8, 0, 1, 2, 3, 4, 5, 6, 7, 8], [8])])
def cooperageref1_PutRecord.B10 : List Nat := [0, 0, 2, 6, 14, 31, 0, 64, 255, 511]
theorem cooperageref1_PutRecord.tab10 : rtab .any (opsOf Try.f38 10) = cooperageref1_PutRecord.T10 := by kernel_rfl
theorem cooperageref1_PutRecord.bits10 : waitsOk cooperageref1_PutRecord.T10.2 cooperageref1_PutRecord.B10 = true := by kernel_rfl
set_option maxHeartbeats 8000000 in
set_option maxRecDepth 100000 in
theorem cooperageref1_PutRecord.calls (k : Nat) (A0 : Option Addr) (c0 : Nat) (l0 : List Int) (a1_0 : Int) (a1_1 : Int) (a1_2 : ByteArray) (a1_3 : ByteArray) (a1_4 : Bool) (r : List Int) (w : World) (hr0 : Kd.C (Kd.int .u8) w A0 l0.length l0) (hc0 : l0.length ≤ c0) (h : cooperageref1_PutRecord.f k l0 a1_0 a1_1 a1_2 a1_3 a1_4 = some r) :
    Calls Try.prog 38 #[.slice A0 l0.length c0, .agg #[.int .i64 a1_0, .int .i64 a1_1, .string a1_2, .string a1_3, .bool a1_4]] w fun e w' => ∃ v0_ : Value, e = .returned (v0_) ∧ Kd.R (Kd.int .u8) 5 w' w.heap.size (fun _ => True) v0_ r ∧ Below w.heap.size w w' := by
  have hu34 := Try.underlying34
  have HR0 := Aside0.mk hr0
  have HC0 := Aside0.mk hc0
  clear hr0 hc0
  have HB := Aside0.mk (Below.refl w.heap.size w)
  have H : (if ([] : List Int).length + l0.length < 140737488355328 then ((some (([] : List Int) ++ l0 : List Int)).bind fun y247 => ((cooperageref1_Right.f a1_0 a1_1 a1_2 a1_3 a1_4).bind fun t250 => (if t250 = true then ((cooperageref1_Put.f k y247 (IntKind.u64.wrap (a1_0))).bind fun t251 => ((cooperageref1_Fold.f a1_1).bind fun t254 => ((cooperageref1_Put.f k t251 t254).bind fun t255 => (if a1_4 = true then (if t255.length < 140737488355328 then ((cooperageref1_Put.f k (t255 ++ [1]) (IntKind.u64.wrap ((a1_2.size : Int)))).bind fun t261 => (if t261.length + a1_2.size < 140737488355328 then ((cooperageref1_Put.f k (t261 ++ bytesOf a1_2) (IntKind.u64.wrap ((a1_3.size : Int)))).bind fun t267 => (if t267.length + a1_3.size < 140737488355328 then (some (t267 ++ bytesOf a1_3)) else (none))) else (none))) else (none)) else (if t255.length < 140737488355328 then ((cooperageref1_Put.f k (t255 ++ [0]) (IntKind.u64.wrap ((a1_2.size : Int)))).bind fun t276 => (if t276.length + a1_2.size < 140737488355328 then ((cooperageref1_Put.f k (t276 ++ bytesOf a1_2) (IntKind.u64.wrap ((a1_3.size : Int)))).bind fun t282 => (if t282.length + a1_3.size < 140737488355328 then (some (t282 ++ bytesOf a1_3)) else (none))) else (none))) else (none)))))) else (some y247)))) else (none)) = some r := h
  clear h
  by_cases c3 : ([] : List Int).length + l0.length < 140737488355328
  · rw [if_pos c3] at H
    have LMc3 := Aside0.mk c3
    clear c3
    obtain ⟨y247, hy247⟩ : ∃ y_ : List Int, y_ = (([] : List Int) ++ l0) := ⟨_, rfl⟩
    replace H : ((cooperageref1_Right.f a1_0 a1_1 a1_2 a1_3 a1_4).bind fun t250 => (if t250 = true then ((cooperageref1_Put.f k y247 (IntKind.u64.wrap (a1_0))).bind fun t251 => ((cooperageref1_Fold.f a1_1).bind fun t254 => ((cooperageref1_Put.f k t251 t254).bind fun t255 => (if a1_4 = true then (if t255.length < 140737488355328 then ((cooperageref1_Put.f k (t255 ++ [1]) (IntKind.u64.wrap ((a1_2.size : Int)))).bind fun t261 => (if t261.length + a1_2.size < 140737488355328 then ((cooperageref1_Put.f k (t261 ++ bytesOf a1_2) (IntKind.u64.wrap ((a1_3.size : Int)))).bind fun t267 => (if t267.length + a1_3.size < 140737488355328 then (some (t267 ++ bytesOf a1_3)) else (none))) else (none))) else (none)) else (if t255.length < 140737488355328 then ((cooperageref1_Put.f k (t255 ++ [0]) (IntKind.u64.wrap ((a1_2.size : Int)))).bind fun t276 => (if t276.length + a1_2.size < 140737488355328 then ((cooperageref1_Put.f k (t276 ++ bytesOf a1_2) (IntKind.u64.wrap ((a1_3.size : Int)))).bind fun t282 => (if t282.length + a1_3.size < 140737488355328 then (some (t282 ++ bytesOf a1_3)) else (none))) else (none))) else (none)))))) else (some y247))) = some r := by first | (rw [hy247]; with_reducible exact H) | (have H2_ := (Option.bind_some _ _).symm.trans H; rw [hy247]; with_reducible exact H2_) | (have H2_ := (Option.bind_some _ _).symm.trans H; with_reducible exact H2_) | with_reducible exact H | (rw [hy247]; exact H) | exact H
    have Ny247 := Aside0.mk hy247
    clear hy247
    replace H := Option.bind_eq_some_iff.mp H
    obtain ⟨t250, A40, H⟩ := H
    replace H : (if t250 = true then ((cooperageref1_Put.f k y247 (IntKind.u64.wrap (a1_0))).bind fun t251 => ((cooperageref1_Fold.f a1_1).bind fun t254 => ((cooperageref1_Put.f k t251 t254).bind fun t255 => (if a1_4 = true then (if t255.length < 140737488355328 then ((cooperageref1_Put.f k (t255 ++ [1]) (IntKind.u64.wrap ((a1_2.size : Int)))).bind fun t261 => (if t261.length + a1_2.size < 140737488355328 then ((cooperageref1_Put.f k (t261 ++ bytesOf a1_2) (IntKind.u64.wrap ((a1_3.size : Int)))).bind fun t267 => (if t267.length + a1_3.size < 140737488355328 then (some (t267 ++ bytesOf a1_3)) else (none))) else (none))) else (none)) else (if t255.length < 140737488355328 then ((cooperageref1_Put.f k (t255 ++ [0]) (IntKind.u64.wrap ((a1_2.size : Int)))).bind fun t276 => (if t276.length + a1_2.size < 140737488355328 then ((cooperageref1_Put.f k (t276 ++ bytesOf a1_2) (IntKind.u64.wrap ((a1_3.size : Int)))).bind fun t282 => (if t282.length + a1_3.size < 140737488355328 then (some (t282 ++ bytesOf a1_3)) else (none))) else (none))) else (none)))))) else (some y247)) = some r := H
    have A4 := Aside0.mk A40
    clear A40
    by_cases c5 : t250 = true
    · subst c5
      have H1 : ((cooperageref1_Put.f k y247 (IntKind.u64.wrap (a1_0))).bind fun t251 => ((cooperageref1_Fold.f a1_1).bind fun t254 => ((cooperageref1_Put.f k t251 t254).bind fun t255 => (if a1_4 = true then (if t255.length < 140737488355328 then ((cooperageref1_Put.f k (t255 ++ [1]) (IntKind.u64.wrap ((a1_2.size : Int)))).bind fun t261 => (if t261.length + a1_2.size < 140737488355328 then ((cooperageref1_Put.f k (t261 ++ bytesOf a1_2) (IntKind.u64.wrap ((a1_3.size : Int)))).bind fun t267 => (if t267.length + a1_3.size < 140737488355328 then (some (t267 ++ bytesOf a1_3)) else (none))) else (none))) else (none)) else (if t255.length < 140737488355328 then ((cooperageref1_Put.f k (t255 ++ [0]) (IntKind.u64.wrap ((a1_2.size : Int)))).bind fun t276 => (if t276.length + a1_2.size < 140737488355328 then ((cooperageref1_Put.f k (t276 ++ bytesOf a1_2) (IntKind.u64.wrap ((a1_3.size : Int)))).bind fun t282 => (if t282.length + a1_3.size < 140737488355328 then (some (t282 ++ bytesOf a1_3)) else (none))) else (none))) else (none)))))) = some r := by rw [if_pos rfl] at H; exact H
      clear H
      have H := H1
      clear H1
      replace H := Option.bind_eq_some_iff.mp H
      obtain ⟨t251, A60, H⟩ := H
      replace H : ((cooperageref1_Fold.f a1_1).bind fun t254 => ((cooperageref1_Put.f k t251 t254).bind fun t255 => (if a1_4 = true then (if t255.length < 140737488355328 then ((cooperageref1_Put.f k (t255 ++ [1]) (IntKind.u64.wrap ((a1_2.size : Int)))).bind fun t261 => (if t261.length + a1_2.size < 140737488355328 then ((cooperageref1_Put.f k (t261 ++ bytesOf a1_2) (IntKind.u64.wrap ((a1_3.size : Int)))).bind fun t267 => (if t267.length + a1_3.size < 140737488355328 then (some (t267 ++ bytesOf a1_3)) else (none))) else (none))) else (none)) else (if t255.length < 140737488355328 then ((cooperageref1_Put.f k (t255 ++ [0]) (IntKind.u64.wrap ((a1_2.size : Int)))).bind fun t276 => (if t276.length + a1_2.size < 140737488355328 then ((cooperageref1_Put.f k (t276 ++ bytesOf a1_2) (IntKind.u64.wrap ((a1_3.size : Int)))).bind fun t282 => (if t282.length + a1_3.size < 140737488355328 then (some (t282 ++ bytesOf a1_3)) else (none))) else (none))) else (none))))) = some r := H
      have A6 := Aside0.mk A60
      clear A60
      replace H := Option.bind_eq_some_iff.mp H
      obtain ⟨t254, A70, H⟩ := H
      replace H : ((cooperageref1_Put.f k t251 t254).bind fun t255 => (if a1_4 = true then (if t255.length < 140737488355328 then ((cooperageref1_Put.f k (t255 ++ [1]) (IntKind.u64.wrap ((a1_2.size : Int)))).bind fun t261 => (if t261.length + a1_2.size < 140737488355328 then ((cooperageref1_Put.f k (t261 ++ bytesOf a1_2) (IntKind.u64.wrap ((a1_3.size : Int)))).bind fun t267 => (if t267.length + a1_3.size < 140737488355328 then (some (t267 ++ bytesOf a1_3)) else (none))) else (none))) else (none)) else (if t255.length < 140737488355328 then ((cooperageref1_Put.f k (t255 ++ [0]) (IntKind.u64.wrap ((a1_2.size : Int)))).bind fun t276 => (if t276.length + a1_2.size < 140737488355328 then ((cooperageref1_Put.f k (t276 ++ bytesOf a1_2) (IntKind.u64.wrap ((a1_3.size : Int)))).bind fun t282 => (if t282.length + a1_3.size < 140737488355328 then (some (t282 ++ bytesOf a1_3)) else (none))) else (none))) else (none)))) = some r := H
      have A7 := Aside0.mk A70
      clear A70
      replace H := Option.bind_eq_some_iff.mp H
      obtain ⟨t255, A80, H⟩ := H
      replace H : (if a1_4 = true then (if t255.length < 140737488355328 then ((cooperageref1_Put.f k (t255 ++ [1]) (IntKind.u64.wrap ((a1_2.size : Int)))).bind fun t261 => (if t261.length + a1_2.size < 140737488355328 then ((cooperageref1_Put.f k (t261 ++ bytesOf a1_2) (IntKind.u64.wrap ((a1_3.size : Int)))).bind fun t267 => (if t267.length + a1_3.size < 140737488355328 then (some (t267 ++ bytesOf a1_3)) else (none))) else (none))) else (none)) else (if t255.length < 140737488355328 then ((cooperageref1_Put.f k (t255 ++ [0]) (IntKind.u64.wrap ((a1_2.size : Int)))).bind fun t276 => (if t276.length + a1_2.size < 140737488355328 then ((cooperageref1_Put.f k (t276 ++ bytesOf a1_2) (IntKind.u64.wrap ((a1_3.size : Int)))).bind fun t282 => (if t282.length + a1_3.size < 140737488355328 then (some (t282 ++ bytesOf a1_3)) else (none))) else (none))) else (none))) = some r := H
      have A8 := Aside0.mk A80
      clear A80
      by_cases c9 : a1_4 = true
      · subst c9
        have H1 : (if t255.length < 140737488355328 then ((cooperageref1_Put.f k (t255 ++ [1]) (IntKind.u64.wrap ((a1_2.size : Int)))).bind fun t261 => (if t261.length + a1_2.size < 140737488355328 then ((cooperageref1_Put.f k (t261 ++ bytesOf a1_2) (IntKind.u64.wrap ((a1_3.size : Int)))).bind fun t267 => (if t267.length + a1_3.size < 140737488355328 then (some (t267 ++ bytesOf a1_3)) else (none))) else (none))) else (none)) = some r := by rw [if_pos rfl] at H; exact H
        clear H
        have H := H1
        clear H1
        by_cases c10 : t255.length < 140737488355328
        · rw [if_pos c10] at H
          have LMc10 := Aside0.mk c10
          clear c10
          obtain ⟨y258, hy258⟩ : ∃ y_ : List Int, y_ = (t255 ++ [1]) := ⟨_, rfl⟩
          replace H : ((cooperageref1_Put.f k y258 (IntKind.u64.wrap ((a1_2.size : Int)))).bind fun t261 => (if t261.length + a1_2.size < 140737488355328 then ((cooperageref1_Put.f k (t261 ++ bytesOf a1_2) (IntKind.u64.wrap ((a1_3.size : Int)))).bind fun t267 => (if t267.length + a1_3.size < 140737488355328 then (some (t267 ++ bytesOf a1_3)) else (none))) else (none))) = some r := by first | (rw [hy258]; with_reducible exact H) | (have H2_ := (Option.bind_some _ _).symm.trans H; rw [hy258]; with_reducible exact H2_) | (have H2_ := (Option.bind_some _ _).symm.trans H; with_reducible exact H2_) | with_reducible exact H | (rw [hy258]; exact H) | exact H
          have Ny258 := Aside0.mk hy258
          clear hy258
          replace H := Option.bind_eq_some_iff.mp H
          obtain ⟨t261, A110, H⟩ := H
          replace H : (if t261.length + a1_2.size < 140737488355328 then ((cooperageref1_Put.f k (t261 ++ bytesOf a1_2) (IntKind.u64.wrap ((a1_3.size : Int)))).bind fun t267 => (if t267.length + a1_3.size < 140737488355328 then (some (t267 ++ bytesOf a1_3)) else (none))) else (none)) = some r := H
          have A11 := Aside0.mk A110
          clear A110
          by_cases c12 : t261.length + a1_2.size < 140737488355328
          · rw [if_pos c12] at H
            have LMc12 := Aside0.mk c12
            clear c12
            obtain ⟨y264, hy264⟩ : ∃ y_ : List Int, y_ = (t261 ++ bytesOf a1_2) := ⟨_, rfl⟩
            replace H : ((cooperageref1_Put.f k y264 (IntKind.u64.wrap ((a1_3.size : Int)))).bind fun t267 => (if t267.length + a1_3.size < 140737488355328 then (some (t267 ++ bytesOf a1_3)) else (none))) = some r := by first | (rw [hy264]; with_reducible exact H) | (have H2_ := (Option.bind_some _ _).symm.trans H; rw [hy264]; with_reducible exact H2_) | (have H2_ := (Option.bind_some _ _).symm.trans H; with_reducible exact H2_) | with_reducible exact H | (rw [hy264]; exact H) | exact H
            have Ny264 := Aside0.mk hy264
            clear hy264
            replace H := Option.bind_eq_some_iff.mp H
            obtain ⟨t267, A130, H⟩ := H
            replace H : (if t267.length + a1_3.size < 140737488355328 then (some (t267 ++ bytesOf a1_3)) else (none)) = some r := H
            have A13 := Aside0.mk A130
            clear A130
            by_cases c14 : t267.length + a1_3.size < 140737488355328
            · rw [if_pos c14] at H
              have LMc14 := Aside0.mk c14
              clear c14
              obtain ⟨y270, hy270⟩ : ∃ y_ : List Int, y_ = (t267 ++ bytesOf a1_3) := ⟨_, rfl⟩
              replace H : (some y270) = some r := by first | (rw [hy270]; with_reducible exact H) | (have H2_ := (Option.bind_some _ _).symm.trans H; rw [hy270]; with_reducible exact H2_) | (have H2_ := (Option.bind_some _ _).symm.trans H; with_reducible exact H2_) | with_reducible exact H | (rw [hy270]; exact H) | exact H
              have Ny270 := Aside0.mk hy270
              clear hy270
              obtain rfl := Option.some.inj H
              go_enter Try.func38, Try.ntmps38
              try go_wp2_with (first | ((with_reducible refine gate_dst (N := 3) rfl ?_); refine box_event ?hg (N := 3) ?hd (cs := #[.int .i64 a1_0, .int .i64 a1_1, .string a1_2, .string a1_3, .bool true]) (t := 34) ?hr ?_; (case hd => rfl); (case hg => rfl); (case hr => first | (go_simp; done) | (go_simp; rfl)); intro gb246 hg w15 hbox hb; have n0_ := Aside0.mk (vT (by repeat (first | (with_reducible first | exact HB.out | apply vA | apply vN | apply vD) | exact HB.out)) hb); have n1_ := Aside0.mk (hbox); have n2_ := Aside0.mk ((by rw [hg]; exact (vZ (by repeat (first | (with_reducible first | exact HB.out | apply vA | apply vN | apply vD) | exact HB.out))) : w.heap.size ≤ gb246)); have n3_ := Aside0.mk ((by rw [hg]; exact (vZ (by repeat (first | (with_reducible first | exact HB.out | apply vA | apply vN | apply vD) | exact HB.out))) : w.heap.size ≤ gb246)); clear HB; have HB := n0_; have BK246 := n1_; have GW246 := n2_; have GE246 := n3_; clear n0_ n1_ n2_ n3_; clear hb hbox hg) | ((with_reducible refine gate_builtin (b := .append) (xs := #[(.const (.slice none 0 0)), .tmp 5]) rfl ?_); at_builtin; refine Kd.R_append_rows (Kd.int .u8) (w0 := w) w.heap.size rfl (.const (.slice none 0 0)) (.tmp 5) 37 5 (.int .u8 0) 1 rfl Try.underlying37 info5 rfl (by decide) (by omega) (.slice none 0 0) ([] : List Int) l0 _ _ _ (fun _ => True) (fun _ => False) rfl rfl ?aO ?aR (fun _ _ h => h) (fun _ h => h.elim) ?aF ?aB ?aS ?aL ?_; (case aR => repeat (first | exact (Kd.C_below HR0.out HB.out) | (with_reducible refine Kd.C_alloc ?_ _) | (with_reducible refine Kd.C_drewN ?_ _) | (with_reducible refine Kd.C_drew ?_))); (case aB => exact (by repeat (first | (with_reducible first | exact HB.out | apply vA | apply vN | apply vD | refine vS ?_ GE246.out) | exact HB.out))); (case aF => exact (fun _ _ => trivial)); (case aO => exact ((Kd.R_nil _ _ _ _ (fun _ => True)))); (case aS => exact (vZ (by repeat (first | (with_reducible first | exact HB.out | apply vA | apply vN | apply vD | refine vS ?_ GE246.out) | exact HB.out)))); (case aL => have := LMc3.out; omega); intro v248 w16 ho hb hg hat; rw [← Ny247.out] at ho; have n0_ := Aside0.mk (blk_grown (g := gb246) (o := .cells #[.int .i64 a1_0, .int .i64 a1_1, .string a1_2, .string a1_3, .bool true] 34 (0, 0)) (by (with_reducible repeat (first | refine bN ?_ _ | refine bD ?_ | refine bA ?_ _)); exact BK246.out) hg (by simp [Value.ownBlock])); have n1_ := Aside0.mk (hb); have n2_ := Aside0.mk (ho); clear BK246; clear HB; have BK246 := n0_; have HB := n1_; have HO249 := n2_; clear n0_ n1_ n2_; clear ho hb hg hat; have hcz17_0 : w16.cell? ⟨gb246, 0, none⟩ = some (.int .i64 a1_0) := (bC BK246.out 0).trans rfl; have hcz17_1 : w16.cell? ⟨gb246, 1, none⟩ = some (.int .i64 a1_1) := (bC BK246.out 1).trans rfl; have hcz17_2 : w16.cell? ⟨gb246, 2, none⟩ = some (.string a1_2) := (bC BK246.out 2).trans rfl; have hcz17_3 : w16.cell? ⟨gb246, 3, none⟩ = some (.string a1_3) := (bC BK246.out 3).trans rfl; have hcz17_4 : w16.cell? ⟨gb246, 4, none⟩ = some (.bool true) := (bC BK246.out 4).trans rfl; have hfz17_0 := bF BK246.out 0; have hfz17_1 := bF BK246.out 1; have hfz17_2 := bF BK246.out 2; have hfz17_3 := bF BK246.out 3; have hfz17_4 := bF BK246.out 4) | ((with_reducible refine gate_callee (f := 16) rfl ?_); refine goesL_ (some 8) rfl rfl Try.func16 (by kernel_rfl) rfl #[.agg #[.int .i64 a1_0, .int .i64 a1_1, .string a1_2, .string a1_3, .bool true]] rfl (by (try simp only [List.map_toArray, List.map_cons, List.map_nil]); first | done | rfl | (simp only [List.length_drop, List.length_take]; rfl)) ?_; (with_reducible refine (cooperageref1_Right.calls a1_0 a1_1 a1_2 a1_3 true true _ A4.out).mono ?_); rintro e w18 ⟨rfl, hb⟩; refine ⟨_, rfl, ?_⟩; have n0_ := Aside0.mk (Kd.RB (by (with_reducible repeat (first | apply Kd.RA | apply Kd.RN | apply Kd.RD)); exact HO249.out) hb); have n1_ := Aside0.mk (bB (g := gb246) (o := .cells #[.int .i64 a1_0, .int .i64 a1_1, .string a1_2, .string a1_3, .bool true] 34 (0, 0)) (by (with_reducible repeat (first | refine bN ?_ _ | refine bD ?_ | refine bA ?_ _)); exact BK246.out) hb); have n2_ := Aside0.mk (vT (by repeat (first | (with_reducible first | exact HB.out | apply vA | apply vN | apply vD | refine vS ?_ GE246.out) | exact HB.out)) hb); clear HO249; clear BK246; clear HB; have HO249 := n0_; have BK246 := n1_; have HB := n2_; clear n0_ n1_ n2_; (try clear hb); (try clear hb2); (try clear hk); (try clear hi); have hcz19_0 : w18.cell? ⟨gb246, 0, none⟩ = some (.int .i64 a1_0) := (bC BK246.out 0).trans rfl; have hcz19_1 : w18.cell? ⟨gb246, 1, none⟩ = some (.int .i64 a1_1) := (bC BK246.out 1).trans rfl; have hcz19_2 : w18.cell? ⟨gb246, 2, none⟩ = some (.string a1_2) := (bC BK246.out 2).trans rfl; have hcz19_3 : w18.cell? ⟨gb246, 3, none⟩ = some (.string a1_3) := (bC BK246.out 3).trans rfl; have hcz19_4 : w18.cell? ⟨gb246, 4, none⟩ = some (.bool true) := (bC BK246.out 4).trans rfl; have hfz19_0 := bF BK246.out 0; have hfz19_1 := bF BK246.out 1; have hfz19_2 := bF BK246.out 2; have hfz19_3 := bF BK246.out 3; have hfz19_4 := bF BK246.out 4; obtain ⟨Ao20, co20, eo20⟩ := Kd.R_slice HO249.out; subst eo20) | ((with_reducible refine gate_callee (f := 53) rfl ?_); refine goesL_ (some 15) rfl rfl Try.func53 (by kernel_rfl) rfl #[.slice Ao20 y247.length co20, .int .u64 (IntKind.u64.wrap (a1_0))] rfl (by (try simp only [List.map_toArray, List.map_cons, List.map_nil]); first | done | rfl | (simp only [List.length_drop, List.length_take]; rfl)) ?_; (with_reducible refine (cooperageref1_Put.calls k _ _ y247 (IntKind.u64.wrap (a1_0)) t251 _ ?side1 ?side2 A6.out).mono ?_); (case side1 => repeat (first | exact (Kd.R_reads' HO249.out).2.2 | (with_reducible refine Kd.C_alloc ?_ _) | (with_reducible refine Kd.C_drewN ?_ _) | (with_reducible refine Kd.C_drew ?_))); (case side2 => exact (Kd.R_reads' HO249.out).2.1); rintro e w21 ⟨v252, rfl, ho0, hb⟩; refine ⟨_, rfl, ?_⟩; have n0_ := Aside0.mk (Kd.R_elder' (by (with_reducible repeat (first | apply Kd.RA | apply Kd.RN | apply Kd.RD)); exact HO249.out) (Kd.R_base ho0) hb); have n1_ := Aside0.mk (Kd.RL (Kd.R_new' ho0 (Kd.R_lt (by (with_reducible repeat (first | apply Kd.RA | apply Kd.RN | apply Kd.RD)); exact HO249.out))) (vZ (by repeat (first | (with_reducible first | exact HB.out | apply vA | apply vN | apply vD | refine vS ?_ GE246.out) | exact HB.out)))); have n2_ := Aside0.mk (bB (g := gb246) (o := .cells #[.int .i64 a1_0, .int .i64 a1_1, .string a1_2, .string a1_3, .bool true] 34 (0, 0)) (by (with_reducible repeat (first | refine bN ?_ _ | refine bD ?_ | refine bA ?_ _)); exact BK246.out) hb); have n3_ := Aside0.mk (vT (by repeat (first | (with_reducible first | exact HB.out | apply vA | apply vN | apply vD | refine vS ?_ GE246.out) | exact HB.out)) hb); clear HO249; clear BK246; clear HB; have HO249 := n0_; have HO253 := n1_; have BK246 := n2_; have HB := n3_; clear n0_ n1_ n2_ n3_; (try clear hb); (try clear hb2); (try clear hk); (try clear hi); (try clear ho0); have hcz22_0 : w21.cell? ⟨gb246, 0, none⟩ = some (.int .i64 a1_0) := (bC BK246.out 0).trans rfl; have hcz22_1 : w21.cell? ⟨gb246, 1, none⟩ = some (.int .i64 a1_1) := (bC BK246.out 1).trans rfl; have hcz22_2 : w21.cell? ⟨gb246, 2, none⟩ = some (.string a1_2) := (bC BK246.out 2).trans rfl; have hcz22_3 : w21.cell? ⟨gb246, 3, none⟩ = some (.string a1_3) := (bC BK246.out 3).trans rfl; have hcz22_4 : w21.cell? ⟨gb246, 4, none⟩ = some (.bool true) := (bC BK246.out 4).trans rfl; have hfz22_0 := bF BK246.out 0; have hfz22_1 := bF BK246.out 1; have hfz22_2 := bF BK246.out 2; have hfz22_3 := bF BK246.out 3; have hfz22_4 := bF BK246.out 4) | ((with_reducible refine gate_callee (f := 55) rfl ?_); refine goesL_ (some 19) rfl rfl Try.func55 (by kernel_rfl) rfl #[.int .i64 a1_1] rfl (by (try simp only [List.map_toArray, List.map_cons, List.map_nil]); first | done | rfl | (simp only [List.length_drop, List.length_take]; rfl)) ?_; (with_reducible refine (cooperageref1_Fold.calls a1_1 t254 _ A7.out).mono ?_); rintro e w' ⟨rfl, ⟨nd, rfl⟩⟩; refine ⟨_, rfl, ?_⟩; obtain ⟨Ao23, co23, eo23⟩ := Kd.R_slice HO253.out; subst eo23) | ((with_reducible refine gate_callee (f := 53) rfl ?_); refine goesL_ (some 20) rfl rfl Try.func53 (by kernel_rfl) rfl #[.slice Ao23 t251.length co23, .int .u64 t254] rfl (by (try simp only [List.map_toArray, List.map_cons, List.map_nil]); first | done | rfl | (simp only [List.length_drop, List.length_take]; rfl)) ?_; (with_reducible refine (cooperageref1_Put.calls k _ _ t251 t254 t255 _ ?side1 ?side2 A8.out).mono ?_); (case side1 => repeat (first | exact (Kd.R_reads' HO253.out).2.2 | (with_reducible refine Kd.C_alloc ?_ _) | (with_reducible refine Kd.C_drewN ?_ _) | (with_reducible refine Kd.C_drew ?_))); (case side2 => exact (Kd.R_reads' HO253.out).2.1); rintro e w24 ⟨v256, rfl, ho0, hb⟩; refine ⟨_, rfl, ?_⟩; have n0_ := Aside0.mk (Kd.R_elder' (by (with_reducible repeat (first | apply Kd.RA | apply Kd.RN | apply Kd.RD)); exact HO249.out) (Kd.R_base ho0) hb); have n1_ := Aside0.mk (Kd.R_elder' (by (with_reducible repeat (first | apply Kd.RA | apply Kd.RN | apply Kd.RD)); exact HO253.out) (Kd.R_base ho0) hb); have n2_ := Aside0.mk (Kd.RL (Kd.R_new' (Kd.R_new' ho0 (Kd.R_lt (by (with_reducible repeat (first | apply Kd.RA | apply Kd.RN | apply Kd.RD)); exact HO249.out))) (Kd.R_lt (by (with_reducible repeat (first | apply Kd.RA | apply Kd.RN | apply Kd.RD)); exact HO253.out))) (vZ (by repeat (first | (with_reducible first | exact HB.out | apply vA | apply vN | apply vD | refine vS ?_ GE246.out) | exact HB.out)))); have n3_ := Aside0.mk (bB (g := gb246) (o := .cells #[.int .i64 a1_0, .int .i64 a1_1, .string a1_2, .string a1_3, .bool true] 34 (0, 0)) (by (with_reducible repeat (first | refine bN ?_ _ | refine bD ?_ | refine bA ?_ _)); exact BK246.out) hb); have n4_ := Aside0.mk (vT (by repeat (first | (with_reducible first | exact HB.out | apply vA | apply vN | apply vD | refine vS ?_ GE246.out) | exact HB.out)) hb); clear HO249; clear HO253; clear BK246; clear HB; have HO249 := n0_; have HO253 := n1_; have HO257 := n2_; have BK246 := n3_; have HB := n4_; clear n0_ n1_ n2_ n3_ n4_; (try clear hb); (try clear hb2); (try clear hk); (try clear hi); (try clear ho0); have hcz25_0 : w24.cell? ⟨gb246, 0, none⟩ = some (.int .i64 a1_0) := (bC BK246.out 0).trans rfl; have hcz25_1 : w24.cell? ⟨gb246, 1, none⟩ = some (.int .i64 a1_1) := (bC BK246.out 1).trans rfl; have hcz25_2 : w24.cell? ⟨gb246, 2, none⟩ = some (.string a1_2) := (bC BK246.out 2).trans rfl; have hcz25_3 : w24.cell? ⟨gb246, 3, none⟩ = some (.string a1_3) := (bC BK246.out 3).trans rfl; have hcz25_4 : w24.cell? ⟨gb246, 4, none⟩ = some (.bool true) := (bC BK246.out 4).trans rfl; have hfz25_0 := bF BK246.out 0; have hfz25_1 := bF BK246.out 1; have hfz25_2 := bF BK246.out 2; have hfz25_3 := bF BK246.out 3; have hfz25_4 := bF BK246.out 4) | ((with_reducible refine gate_builtin (b := .append) (xs := #[(.tmp 23), .tmp 24]) rfl ?_); at_builtin; refine Kd.R_append (Kd.int .u8) (w0 := w) w.heap.size rfl (.tmp 23) (.tmp 24) 37 5 (.int .u8 0) 1 rfl Try.underlying37 info5 rfl (by decide) (by omega) v256 t255 1 [.int .u8 1] (fun k_ => some k_ ≠ (.slice Ao20 y247.length co20 : Value).ownBlock ∧ some k_ ≠ (.slice Ao23 t251.length co23 : Value).ownBlock) (fun _ => False) rfl rfl ?aP (fun _ hk => hk.elim) ?aF ?aO ?aB ?aS ?aL ?_; (case aP => exact rfl); (case aB => exact (by repeat (first | (with_reducible first | exact HB.out | apply vA | apply vN | apply vD | refine vS ?_ GE246.out) | exact HB.out))); (case aF => exact (fun k_ hk => ⟨Kd.fresh' (Kd.R_lt (by (with_reducible repeat (first | apply Kd.RA | apply Kd.RN | apply Kd.RD)); exact HO249.out)) k_ hk, Kd.fresh' (Kd.R_lt (by (with_reducible repeat (first | apply Kd.RA | apply Kd.RN | apply Kd.RD)); exact HO253.out)) k_ hk⟩)); (case aO => exact (by (with_reducible repeat (first | apply Kd.RA | apply Kd.RN | apply Kd.RD)); exact Kd.RM HO257.out (fun _ hk => ⟨hk.1.2, hk.2⟩))); (case aS => exact (vZ (by repeat (first | (with_reducible first | exact HB.out | apply vA | apply vN | apply vD | refine vS ?_ GE246.out) | exact HB.out)))); (case aL => have := LMc10.out; omega); intro v259 w26 ho hb hg hat; rw [← Ny258.out] at ho; have n0_ := Aside0.mk (blk_grown (g := gb246) (o := .cells #[.int .i64 a1_0, .int .i64 a1_1, .string a1_2, .string a1_3, .bool true] 34 (0, 0)) (by (with_reducible repeat (first | refine bN ?_ _ | refine bD ?_ | refine bA ?_ _)); exact BK246.out) hg (Kd.R_ne HO257.out BK246.out (by decide))); have n1_ := Aside0.mk (Kd.R_after (ok := (fun k_ => some k_ ≠ (.slice Ao23 t251.length co23 : Value).ownBlock)) (by (with_reducible repeat (first | apply Kd.RA | apply Kd.RN | apply Kd.RD)); exact Kd.RM HO249.out (fun _ hk => ⟨hk.1.2, hk.2⟩)) hg hat); have n2_ := Aside0.mk (Kd.R_after (ok := (fun k_ => some k_ ≠ (.slice Ao20 y247.length co20 : Value).ownBlock)) (by (with_reducible repeat (first | apply Kd.RA | apply Kd.RN | apply Kd.RD)); exact Kd.RM HO253.out (fun _ hk => ⟨hk.1.2, hk.2⟩)) hg hat); have n3_ := Aside0.mk (hb); have n4_ := Aside0.mk (ho); clear BK246; clear HO249; clear HO253; clear HB; clear HO257; have BK246 := n0_; have HO249 := n1_; have HO253 := n2_; have HB := n3_; have HO260 := n4_; clear n0_ n1_ n2_ n3_ n4_; clear ho hb hg hat))
              have n0_ := Aside0.mk (Kd.RD HO249.out)
              have n1_ := Aside0.mk (Kd.RD HO253.out)
              have n2_ := Aside0.mk (Kd.RD HO260.out)
              have n3_ := Aside0.mk (bD BK246.out)
              have n4_ := Aside0.mk (vD HB.out)
              clear HO249
              clear HO253
              clear HO260
              clear BK246
              clear HB
              have HO249 := n0_
              have HO253 := n1_
              have HO260 := n2_
              have BK246 := n3_
              have HB := n4_
              clear n0_ n1_ n2_ n3_ n4_
              obtain ⟨Ao28, co28, eo28⟩ := Kd.R_slice HO260.out
              (first | subst eo28 | (injection eo28 with f1_ f2_ f3_; have f4_ := f1_.symm; have f5_ := f3_.symm; clear f1_ f2_ f3_; subst f4_; subst f5_))
              refine start_ (n := 10) (S := fun w' => w'.cell? ⟨gb246, 0, none⟩ = some (.int .i64 a1_0) ∧ w'.cell? ⟨gb246, 1, none⟩ = some (.int .i64 a1_1) ∧ w'.cell? ⟨gb246, 2, none⟩ = some (.string a1_2) ∧ w'.cell? ⟨gb246, 3, none⟩ = some (.string a1_3) ∧ w'.cell? ⟨gb246, 4, none⟩ = some (.bool true)) (ds := []) #[false, false, false, false, false, false, false, false, false, false] (by kernel_rfl) rfl rfl ⟨(bC BK246.out 0).trans rfl, (bC BK246.out 1).trans rfl, (bC BK246.out 2).trans rfl, (bC BK246.out 3).trans rfl, (bC BK246.out 4).trans rfl⟩ (fun hHeld => ?_); refine with_tabW cooperageref1_PutRecord.tab9 cooperageref1_PutRecord.bits9 (fun HT_ HW_ => ?_)
              generalize w26.drew = w27 at HO249 HO253 HO260 BK246 HB hHeld ⊢
              refine pure_ (i := 0) (N := some 29) (v := ?_) (a' := ?_) #[true, false, false, false, false, false, false, false, false, false] rfl rfl (any_of HT_.out (by kernel_rfl)) (fun _ _ _ h => h) (Or.inl ⟨by rfl, ?_⟩) ?_ ?_
              rotate_left
              · intro w'
                go_simp
                with_reducible rfl
              rotate_left
              · simp only [Act.put, List.setIfInBounds_toArray, List.set_cons_zero, List.set_cons_succ, i64_w, i32_w]
                rfl
              refine pure_ (i := 1) (N := some 30) (v := ?_) (a' := ?_) #[true, true, false, false, false, false, false, false, false, false] rfl rfl (any_of HT_.out (by kernel_rfl)) (fun _ _ _ h => h) (Or.inl ⟨by rfl, ?_⟩) ?_ ?_
              rotate_left
              · intro w'
                go_simp
                with_reducible rfl
              rotate_left
              · simp only [Act.put, List.setIfInBounds_toArray, List.set_cons_zero, List.set_cons_succ, i64_w, i32_w]
                rfl
              refine pure_ (i := 6) (N := some 35) (v := ?_) (a' := ?_) #[true, true, false, false, false, false, true, false, false, false] rfl rfl (any_of HT_.out (by kernel_rfl)) (fun _ _ _ h => h) (Or.inl ⟨by rfl, ?_⟩) ?_ ?_
              rotate_left
              · intro w'
                go_simp
                with_reducible rfl
              rotate_left
              · simp only [Act.put, List.setIfInBounds_toArray, List.set_cons_zero, List.set_cons_succ, i64_w, i32_w]
                rfl
              refine take_ (i := 2) (N := some 31) (v := ?_) (a' := ?_) #[true, true, true, false, false, false, true, false, false, false] rfl rfl (take_ofW HT_.out HW_.out (by kernel_rfl)) (fun _ _ _ h => h) (Or.inl ⟨by rfl, ?_⟩) hHeld ?_ ?_
              rotate_left
              · rintro w' ⟨s0, s1, s2, s3, s4⟩
                go_simp
                with_reducible rfl
              rotate_left
              · simp only [Act.put, List.setIfInBounds_toArray, List.set_cons_zero, List.set_cons_succ, i64_w, i32_w]
                rfl
              refine pure_ (i := 3) (N := some 32) (v := ?_) (a' := ?_) #[true, true, true, true, false, false, true, false, false, false] rfl rfl (any_of HT_.out (by kernel_rfl)) (fun _ _ _ h => h) (Or.inl ⟨by rfl, ?_⟩) ?_ ?_
              rotate_left
              · intro w'
                go_simp
                with_reducible rfl
              rotate_left
              · simp only [Act.put, List.setIfInBounds_toArray, List.set_cons_zero, List.set_cons_succ, i64_w, i32_w]
                rfl
              refine pure_ (i := 4) (N := some 33) (v := ?_) (a' := ?_) #[true, true, true, true, true, false, true, false, false, false] rfl rfl (any_of HT_.out (by kernel_rfl)) (fun _ _ _ h => h) (Or.inl ⟨by rfl, ?_⟩) ?_ ?_
              rotate_left
              · intro w'
                go_simp
                with_reducible rfl
              rotate_left
              · simp only [Act.put, List.setIfInBounds_toArray, List.set_cons_zero, List.set_cons_succ, i64_w, i32_w]
                rfl
              refine take_ (i := 7) (N := some 36) (v := ?_) (a' := ?_) #[true, true, true, true, true, false, true, true, false, false] rfl rfl (take_ofW HT_.out HW_.out (by kernel_rfl)) (fun _ _ _ h => h) (Or.inl ⟨by rfl, ?_⟩) hHeld ?_ ?_
              rotate_left
              · rintro w' ⟨s0, s1, s2, s3, s4⟩
                go_simp
                with_reducible rfl
              rotate_left
              · simp only [Act.put, List.setIfInBounds_toArray, List.set_cons_zero, List.set_cons_succ, i64_w, i32_w]
                rfl
              refine one_ (i := 5) (N := some 34) #[true, true, true, true, true, true, true, true, false, false] rfl rfl (one_of HT_.out (by kernel_rfl)) (by decide) (fun K hK => ?_)
              refine goes_ Try.func53 (by kernel_rfl) rfl #[.slice Ao28 y258.length co28, .int .u64 (IntKind.u64.wrap ((a1_2.size : Int)))] (by rfl) rfl rfl (by (try simp only [List.map_toArray, List.map_cons, List.map_nil]); first | done | rfl | (simp only [List.length_drop, List.length_take]; rfl)) ?_
              with_reducible refine (cooperageref1_Put.calls k _ _ y258 (IntKind.u64.wrap ((a1_2.size : Int))) t261 _ ?side1 ?side2 A11.out).mono ?_
              (case side1 => repeat (first | exact (Kd.R_reads' HO260.out).2.2 | (with_reducible refine Kd.C_alloc ?_ _) | (with_reducible refine Kd.C_drewN ?_ _) | (with_reducible refine Kd.C_drew ?_)))
              (case side2 => exact (Kd.R_reads' HO260.out).2.1)
              rintro e w29 ⟨v262, rfl, ho0, hb⟩
              refine ⟨_, rfl, ?_⟩
              have n0_ := Aside0.mk (Kd.R_elder' (by (with_reducible repeat (first | apply Kd.RA | apply Kd.RN | apply Kd.RD)); exact HO249.out) (Kd.R_base ho0) hb)
              have n1_ := Aside0.mk (Kd.R_elder' (by (with_reducible repeat (first | apply Kd.RA | apply Kd.RN | apply Kd.RD)); exact HO253.out) (Kd.R_base ho0) hb)
              have n2_ := Aside0.mk (Kd.R_elder' (by (with_reducible repeat (first | apply Kd.RA | apply Kd.RN | apply Kd.RD)); exact HO260.out) (Kd.R_base ho0) hb)
              have n3_ := Aside0.mk (Kd.RL (Kd.R_new' (Kd.R_new' (Kd.R_new' ho0 (Kd.R_lt (by (with_reducible repeat (first | apply Kd.RA | apply Kd.RN | apply Kd.RD)); exact HO249.out))) (Kd.R_lt (by (with_reducible repeat (first | apply Kd.RA | apply Kd.RN | apply Kd.RD)); exact HO253.out))) (Kd.R_lt (by (with_reducible repeat (first | apply Kd.RA | apply Kd.RN | apply Kd.RD)); exact HO260.out))) (vZ (by repeat (first | (with_reducible first | exact HB.out | apply vA | apply vN | apply vD | refine vS ?_ GE246.out) | exact HB.out))))
              have n4_ := Aside0.mk (bB (g := gb246) (o := .cells #[.int .i64 a1_0, .int .i64 a1_1, .string a1_2, .string a1_3, .bool true] 34 (0, 0)) (by (with_reducible repeat (first | refine bN ?_ _ | refine bD ?_ | refine bA ?_ _)); exact BK246.out) hb)
              have n5_ := Aside0.mk (vT (by repeat (first | (with_reducible first | exact HB.out | apply vA | apply vN | apply vD | refine vS ?_ GE246.out) | exact HB.out)) hb)
              clear HO249
              clear HO253
              clear HO260
              clear BK246
              clear HB
              have HO249 := n0_
              have HO253 := n1_
              have HO260 := n2_
              have HO263 := n3_
              have BK246 := n4_
              have HB := n5_
              clear n0_ n1_ n2_ n3_ n4_ n5_
              (try clear hb)
              (try clear hb2)
              (try clear hk)
              (try clear hi)
              (try clear ho0)
              refine hK.out _ _ ⟨(bC BK246.out 0).trans rfl, (bC BK246.out 1).trans rfl, (bC BK246.out 2).trans rfl, (bC BK246.out 3).trans rfl, (bC BK246.out 4).trans rfl⟩ (fun hHeld => ?_)
              clear hK K
              refine norm_ (a' := ?_) ?_ ?_
              rotate_left
              · show Act.put _ (some 34) _ = _
                simp only [Act.put, List.setIfInBounds_toArray, List.set_cons_zero, List.set_cons_succ, i64_w, i32_w]
                rfl
              refine one_ (i := 8) (N := some 37) #[true, true, true, true, true, true, true, true, true, false] rfl rfl (one_of HT_.out (by kernel_rfl)) (by decide) (fun K hK => ?_)
              refine R_append_str_step (w0 := w) w.heap.size (by rfl) (.tmp 34) _ 37 9 5 rfl Try.underlying37 Try.underlying9 info5 v262 t261 a1_2 (fun k_ => some k_ ≠ (.slice Ao20 y247.length co20 : Value).ownBlock ∧ some k_ ≠ (.slice Ao23 t251.length co23 : Value).ownBlock ∧ some k_ ≠ (.slice Ao28 y258.length co28 : Value).ownBlock) rfl rfl ?aO ?aF ?aB ?aS ?aL ?_
              (case aB => exact (by repeat (first | (with_reducible first | exact HB.out | apply vA | apply vN | apply vD | refine vS ?_ GE246.out) | exact HB.out)))
              (case aF => exact (fun k_ hk => ⟨Kd.fresh' (Kd.R_lt (by (with_reducible repeat (first | apply Kd.RA | apply Kd.RN | apply Kd.RD)); exact HO249.out)) k_ hk, Kd.fresh' (Kd.R_lt (by (with_reducible repeat (first | apply Kd.RA | apply Kd.RN | apply Kd.RD)); exact HO253.out)) k_ hk, Kd.fresh' (Kd.R_lt (by (with_reducible repeat (first | apply Kd.RA | apply Kd.RN | apply Kd.RD)); exact HO260.out)) k_ hk⟩))
              (case aO => exact (by (with_reducible repeat (first | apply Kd.RA | apply Kd.RN | apply Kd.RD)); exact Kd.RM HO263.out (fun _ hk => ⟨hk.1.1.2, ⟨hk.1.2, hk.2⟩⟩)))
              (case aS => exact (vZ (by repeat (first | (with_reducible first | exact HB.out | apply vA | apply vN | apply vD | refine vS ?_ GE246.out) | exact HB.out))))
              (case aL => have := LMc12.out; omega)
              intro v265 w30 ho hb hg hat
              rw [← Ny264.out] at ho
              have n0_ := Aside0.mk (blk_grown (g := gb246) (o := .cells #[.int .i64 a1_0, .int .i64 a1_1, .string a1_2, .string a1_3, .bool true] 34 (0, 0)) (by (with_reducible repeat (first | refine bN ?_ _ | refine bD ?_ | refine bA ?_ _)); exact BK246.out) hg (Kd.R_ne HO263.out BK246.out (by decide)))
              have n1_ := Aside0.mk (Kd.R_after (ok := (fun k_ => some k_ ≠ (.slice Ao23 t251.length co23 : Value).ownBlock ∧ some k_ ≠ (.slice Ao28 y258.length co28 : Value).ownBlock)) (by (with_reducible repeat (first | apply Kd.RA | apply Kd.RN | apply Kd.RD)); exact HO249.out) hg hat)
              have n2_ := Aside0.mk (Kd.R_after (ok := (fun k_ => some k_ ≠ (.slice Ao20 y247.length co20 : Value).ownBlock ∧ some k_ ≠ (.slice Ao28 y258.length co28 : Value).ownBlock)) (by (with_reducible repeat (first | apply Kd.RA | apply Kd.RN | apply Kd.RD)); exact HO253.out) hg hat)
              have n3_ := Aside0.mk (Kd.R_after (ok := (fun k_ => some k_ ≠ (.slice Ao20 y247.length co20 : Value).ownBlock ∧ some k_ ≠ (.slice Ao23 t251.length co23 : Value).ownBlock)) (by (with_reducible repeat (first | apply Kd.RA | apply Kd.RN | apply Kd.RD)); exact HO260.out) hg hat)
              have n4_ := Aside0.mk (hb)
              have n5_ := Aside0.mk (ho)
              clear BK246
              clear HO249
              clear HO253
              clear HO260
              clear HB
              clear HO263
              have BK246 := n0_
              have HO249 := n1_
              have HO253 := n2_
              have HO260 := n3_
              have HB := n4_
              have HO266 := n5_
              clear n0_ n1_ n2_ n3_ n4_ n5_
              clear ho hb hg hat
              refine hK.out _ _ ⟨(bC BK246.out 0).trans rfl, (bC BK246.out 1).trans rfl, (bC BK246.out 2).trans rfl, (bC BK246.out 3).trans rfl, (bC BK246.out 4).trans rfl⟩ (fun hHeld => ?_)
              clear hK K
              refine norm_ (a' := ?_) ?_ ?_
              rotate_left
              · show Act.put _ (some 37) _ = _
                simp only [Act.put, List.setIfInBounds_toArray, List.set_cons_zero, List.set_cons_succ, i64_w, i32_w]
                rfl
              refine pure_ (i := 9) (N := some 0) (v := ?_) (a' := ?_) #[true, true, true, true, true, true, true, true, true, true] rfl rfl (any_of HT_.out (by kernel_rfl)) (fun _ _ _ h => h) (Or.inl ⟨by rfl, ?_⟩) ?_ ?_
              rotate_left
              · intro w'
                go_simp
                with_reducible rfl
              rotate_left
              · simp only [Act.put, List.setIfInBounds_toArray, List.set_cons_zero, List.set_cons_succ, i64_w, i32_w]
                rfl
              refine done_ (done_of HT_.out (by kernel_rfl)) ?_
              try go_wp2
              have n0_ := Aside0.mk (Kd.RD HO249.out)
              have n1_ := Aside0.mk (Kd.RD HO253.out)
              have n2_ := Aside0.mk (Kd.RD HO260.out)
              have n3_ := Aside0.mk (Kd.RD HO266.out)
              have n4_ := Aside0.mk (bD BK246.out)
              have n5_ := Aside0.mk (vD HB.out)
              clear HO249
              clear HO253
              clear HO260
              clear HO266
              clear BK246
              clear HB
              have HO249 := n0_
              have HO253 := n1_
              have HO260 := n2_
              have HO266 := n3_
              have BK246 := n4_
              have HB := n5_
              clear n0_ n1_ n2_ n3_ n4_ n5_
              obtain ⟨Ao32, co32, eo32⟩ := Kd.R_slice HO266.out
              (first | subst eo32 | (injection eo32 with f1_ f2_ f3_; have f4_ := f1_.symm; have f5_ := f3_.symm; clear f1_ f2_ f3_; subst f4_; subst f5_))
              refine start_ (n := 10) (S := fun w' => w'.cell? ⟨gb246, 0, none⟩ = some (.int .i64 a1_0) ∧ w'.cell? ⟨gb246, 1, none⟩ = some (.int .i64 a1_1) ∧ w'.cell? ⟨gb246, 2, none⟩ = some (.string a1_2) ∧ w'.cell? ⟨gb246, 3, none⟩ = some (.string a1_3) ∧ w'.cell? ⟨gb246, 4, none⟩ = some (.bool true)) (ds := []) #[false, false, false, false, false, false, false, false, false, false] (by kernel_rfl) rfl rfl ⟨(bC BK246.out 0).trans rfl, (bC BK246.out 1).trans rfl, (bC BK246.out 2).trans rfl, (bC BK246.out 3).trans rfl, (bC BK246.out 4).trans rfl⟩ (fun hHeld => ?_); refine with_tabW cooperageref1_PutRecord.tab10 cooperageref1_PutRecord.bits10 (fun HT_ HW_ => ?_)
              generalize w30.drew = w31 at HO249 HO253 HO260 HO266 BK246 HB hHeld ⊢
              refine pure_ (i := 0) (N := some 38) (v := ?_) (a' := ?_) #[true, false, false, false, false, false, false, false, false, false] rfl rfl (any_of HT_.out (by kernel_rfl)) (fun _ _ _ h => h) (Or.inl ⟨by rfl, ?_⟩) ?_ ?_
              rotate_left
              · intro w'
                go_simp
                with_reducible rfl
              rotate_left
              · simp only [Act.put, List.setIfInBounds_toArray, List.set_cons_zero, List.set_cons_succ, i64_w, i32_w]
                rfl
              refine pure_ (i := 1) (N := some 39) (v := ?_) (a' := ?_) #[true, true, false, false, false, false, false, false, false, false] rfl rfl (any_of HT_.out (by kernel_rfl)) (fun _ _ _ h => h) (Or.inl ⟨by rfl, ?_⟩) ?_ ?_
              rotate_left
              · intro w'
                go_simp
                with_reducible rfl
              rotate_left
              · simp only [Act.put, List.setIfInBounds_toArray, List.set_cons_zero, List.set_cons_succ, i64_w, i32_w]
                rfl
              refine pure_ (i := 6) (N := some 44) (v := ?_) (a' := ?_) #[true, true, false, false, false, false, true, false, false, false] rfl rfl (any_of HT_.out (by kernel_rfl)) (fun _ _ _ h => h) (Or.inl ⟨by rfl, ?_⟩) ?_ ?_
              rotate_left
              · intro w'
                go_simp
                with_reducible rfl
              rotate_left
              · simp only [Act.put, List.setIfInBounds_toArray, List.set_cons_zero, List.set_cons_succ, i64_w, i32_w]
                rfl
              refine take_ (i := 2) (N := some 40) (v := ?_) (a' := ?_) #[true, true, true, false, false, false, true, false, false, false] rfl rfl (take_ofW HT_.out HW_.out (by kernel_rfl)) (fun _ _ _ h => h) (Or.inl ⟨by rfl, ?_⟩) hHeld ?_ ?_
              rotate_left
              · rintro w' ⟨s0, s1, s2, s3, s4⟩
                go_simp
                with_reducible rfl
              rotate_left
              · simp only [Act.put, List.setIfInBounds_toArray, List.set_cons_zero, List.set_cons_succ, i64_w, i32_w]
                rfl
              refine pure_ (i := 3) (N := some 41) (v := ?_) (a' := ?_) #[true, true, true, true, false, false, true, false, false, false] rfl rfl (any_of HT_.out (by kernel_rfl)) (fun _ _ _ h => h) (Or.inl ⟨by rfl, ?_⟩) ?_ ?_
              rotate_left
              · intro w'
                go_simp
                with_reducible rfl
              rotate_left
              · simp only [Act.put, List.setIfInBounds_toArray, List.set_cons_zero, List.set_cons_succ, i64_w, i32_w]
                rfl
              refine pure_ (i := 4) (N := some 42) (v := ?_) (a' := ?_) #[true, true, true, true, true, false, true, false, false, false] rfl rfl (any_of HT_.out (by kernel_rfl)) (fun _ _ _ h => h) (Or.inl ⟨by rfl, ?_⟩) ?_ ?_
              rotate_left
              · intro w'
                go_simp
                with_reducible rfl
              rotate_left
              · simp only [Act.put, List.setIfInBounds_toArray, List.set_cons_zero, List.set_cons_succ, i64_w, i32_w]
                rfl
              refine take_ (i := 7) (N := some 45) (v := ?_) (a' := ?_) #[true, true, true, true, true, false, true, true, false, false] rfl rfl (take_ofW HT_.out HW_.out (by kernel_rfl)) (fun _ _ _ h => h) (Or.inl ⟨by rfl, ?_⟩) hHeld ?_ ?_
              rotate_left
              · rintro w' ⟨s0, s1, s2, s3, s4⟩
                go_simp
                with_reducible rfl
              rotate_left
              · simp only [Act.put, List.setIfInBounds_toArray, List.set_cons_zero, List.set_cons_succ, i64_w, i32_w]
                rfl
              refine one_ (i := 5) (N := some 43) #[true, true, true, true, true, true, true, true, false, false] rfl rfl (one_of HT_.out (by kernel_rfl)) (by decide) (fun K hK => ?_)
              refine goes_ Try.func53 (by kernel_rfl) rfl #[.slice Ao32 y264.length co32, .int .u64 (IntKind.u64.wrap ((a1_3.size : Int)))] (by rfl) rfl rfl (by (try simp only [List.map_toArray, List.map_cons, List.map_nil]); first | done | rfl | (simp only [List.length_drop, List.length_take]; rfl)) ?_
              with_reducible refine (cooperageref1_Put.calls k _ _ y264 (IntKind.u64.wrap ((a1_3.size : Int))) t267 _ ?side1 ?side2 A13.out).mono ?_
              (case side1 => repeat (first | exact (Kd.R_reads' HO266.out).2.2 | (with_reducible refine Kd.C_alloc ?_ _) | (with_reducible refine Kd.C_drewN ?_ _) | (with_reducible refine Kd.C_drew ?_)))
              (case side2 => exact (Kd.R_reads' HO266.out).2.1)
              rintro e w33 ⟨v268, rfl, ho0, hb⟩
              refine ⟨_, rfl, ?_⟩
              have n0_ := Aside0.mk (Kd.R_elder' (by (with_reducible repeat (first | apply Kd.RA | apply Kd.RN | apply Kd.RD)); exact HO249.out) (Kd.R_base ho0) hb)
              have n1_ := Aside0.mk (Kd.R_elder' (by (with_reducible repeat (first | apply Kd.RA | apply Kd.RN | apply Kd.RD)); exact HO253.out) (Kd.R_base ho0) hb)
              have n2_ := Aside0.mk (Kd.R_elder' (by (with_reducible repeat (first | apply Kd.RA | apply Kd.RN | apply Kd.RD)); exact HO260.out) (Kd.R_base ho0) hb)
              have n3_ := Aside0.mk (Kd.R_elder' (by (with_reducible repeat (first | apply Kd.RA | apply Kd.RN | apply Kd.RD)); exact HO266.out) (Kd.R_base ho0) hb)
              have n4_ := Aside0.mk (Kd.RL (Kd.R_new' (Kd.R_new' (Kd.R_new' (Kd.R_new' ho0 (Kd.R_lt (by (with_reducible repeat (first | apply Kd.RA | apply Kd.RN | apply Kd.RD)); exact HO249.out))) (Kd.R_lt (by (with_reducible repeat (first | apply Kd.RA | apply Kd.RN | apply Kd.RD)); exact HO253.out))) (Kd.R_lt (by (with_reducible repeat (first | apply Kd.RA | apply Kd.RN | apply Kd.RD)); exact HO260.out))) (Kd.R_lt (by (with_reducible repeat (first | apply Kd.RA | apply Kd.RN | apply Kd.RD)); exact HO266.out))) (vZ (by repeat (first | (with_reducible first | exact HB.out | apply vA | apply vN | apply vD | refine vS ?_ GE246.out) | exact HB.out))))
              have n5_ := Aside0.mk (bB (g := gb246) (o := .cells #[.int .i64 a1_0, .int .i64 a1_1, .string a1_2, .string a1_3, .bool true] 34 (0, 0)) (by (with_reducible repeat (first | refine bN ?_ _ | refine bD ?_ | refine bA ?_ _)); exact BK246.out) hb)
              have n6_ := Aside0.mk (vT (by repeat (first | (with_reducible first | exact HB.out | apply vA | apply vN | apply vD | refine vS ?_ GE246.out) | exact HB.out)) hb)
              clear HO249
              clear HO253
              clear HO260
              clear HO266
              clear BK246
              clear HB
              have HO249 := n0_
              have HO253 := n1_
              have HO260 := n2_
              have HO266 := n3_
              have HO269 := n4_
              have BK246 := n5_
              have HB := n6_
              clear n0_ n1_ n2_ n3_ n4_ n5_ n6_
              (try clear hb)
              (try clear hb2)
              (try clear hk)
              (try clear hi)
              (try clear ho0)
              refine hK.out _ _ ⟨(bC BK246.out 0).trans rfl, (bC BK246.out 1).trans rfl, (bC BK246.out 2).trans rfl, (bC BK246.out 3).trans rfl, (bC BK246.out 4).trans rfl⟩ (fun hHeld => ?_)
              clear hK K
              refine norm_ (a' := ?_) ?_ ?_
              rotate_left
              · show Act.put _ (some 43) _ = _
                simp only [Act.put, List.setIfInBounds_toArray, List.set_cons_zero, List.set_cons_succ, i64_w, i32_w]
                rfl
              refine one_ (i := 8) (N := some 46) #[true, true, true, true, true, true, true, true, true, false] rfl rfl (one_of HT_.out (by kernel_rfl)) (by decide) (fun K hK => ?_)
              refine R_append_str_step (w0 := w) w.heap.size (by rfl) (.tmp 43) _ 37 9 5 rfl Try.underlying37 Try.underlying9 info5 v268 t267 a1_3 (fun k_ => some k_ ≠ (.slice Ao20 y247.length co20 : Value).ownBlock ∧ some k_ ≠ (.slice Ao23 t251.length co23 : Value).ownBlock ∧ some k_ ≠ (.slice Ao28 y258.length co28 : Value).ownBlock ∧ some k_ ≠ (.slice Ao32 y264.length co32 : Value).ownBlock) rfl rfl ?aO ?aF ?aB ?aS ?aL ?_
              (case aB => exact (by repeat (first | (with_reducible first | exact HB.out | apply vA | apply vN | apply vD | refine vS ?_ GE246.out) | exact HB.out)))
              (case aF => exact (fun k_ hk => ⟨Kd.fresh' (Kd.R_lt (by (with_reducible repeat (first | apply Kd.RA | apply Kd.RN | apply Kd.RD)); exact HO249.out)) k_ hk, Kd.fresh' (Kd.R_lt (by (with_reducible repeat (first | apply Kd.RA | apply Kd.RN | apply Kd.RD)); exact HO253.out)) k_ hk, Kd.fresh' (Kd.R_lt (by (with_reducible repeat (first | apply Kd.RA | apply Kd.RN | apply Kd.RD)); exact HO260.out)) k_ hk, Kd.fresh' (Kd.R_lt (by (with_reducible repeat (first | apply Kd.RA | apply Kd.RN | apply Kd.RD)); exact HO266.out)) k_ hk⟩))
              (case aO => exact (by (with_reducible repeat (first | apply Kd.RA | apply Kd.RN | apply Kd.RD)); exact Kd.RM HO269.out (fun _ hk => ⟨hk.1.1.1.2, ⟨hk.1.1.2, ⟨hk.1.2, hk.2⟩⟩⟩)))
              (case aS => exact (vZ (by repeat (first | (with_reducible first | exact HB.out | apply vA | apply vN | apply vD | refine vS ?_ GE246.out) | exact HB.out))))
              (case aL => have := LMc14.out; omega)
              intro v271 w34 ho hb hg hat
              rw [← Ny270.out] at ho
              have n0_ := Aside0.mk (blk_grown (g := gb246) (o := .cells #[.int .i64 a1_0, .int .i64 a1_1, .string a1_2, .string a1_3, .bool true] 34 (0, 0)) (by (with_reducible repeat (first | refine bN ?_ _ | refine bD ?_ | refine bA ?_ _)); exact BK246.out) hg (Kd.R_ne HO269.out BK246.out (by decide)))
              have n1_ := Aside0.mk (Kd.R_after (ok := (fun k_ => some k_ ≠ (.slice Ao23 t251.length co23 : Value).ownBlock ∧ some k_ ≠ (.slice Ao28 y258.length co28 : Value).ownBlock ∧ some k_ ≠ (.slice Ao32 y264.length co32 : Value).ownBlock)) (by (with_reducible repeat (first | apply Kd.RA | apply Kd.RN | apply Kd.RD)); exact Kd.RM HO249.out (fun _ hk => ⟨⟨hk.1.1.1, ⟨hk.1.1.2, hk.1.2⟩⟩, hk.2⟩)) hg hat)
              have n2_ := Aside0.mk (Kd.R_after (ok := (fun k_ => some k_ ≠ (.slice Ao20 y247.length co20 : Value).ownBlock ∧ some k_ ≠ (.slice Ao28 y258.length co28 : Value).ownBlock ∧ some k_ ≠ (.slice Ao32 y264.length co32 : Value).ownBlock)) (by (with_reducible repeat (first | apply Kd.RA | apply Kd.RN | apply Kd.RD)); exact Kd.RM HO253.out (fun _ hk => ⟨⟨hk.1.1.1, ⟨hk.1.1.2, hk.1.2⟩⟩, hk.2⟩)) hg hat)
              have n3_ := Aside0.mk (Kd.R_after (ok := (fun k_ => some k_ ≠ (.slice Ao20 y247.length co20 : Value).ownBlock ∧ some k_ ≠ (.slice Ao23 t251.length co23 : Value).ownBlock ∧ some k_ ≠ (.slice Ao32 y264.length co32 : Value).ownBlock)) (by (with_reducible repeat (first | apply Kd.RA | apply Kd.RN | apply Kd.RD)); exact Kd.RM HO260.out (fun _ hk => ⟨⟨hk.1.1.1, ⟨hk.1.1.2, hk.1.2⟩⟩, hk.2⟩)) hg hat)
              have n4_ := Aside0.mk (Kd.R_after (ok := (fun k_ => some k_ ≠ (.slice Ao20 y247.length co20 : Value).ownBlock ∧ some k_ ≠ (.slice Ao23 t251.length co23 : Value).ownBlock ∧ some k_ ≠ (.slice Ao28 y258.length co28 : Value).ownBlock)) (by (with_reducible repeat (first | apply Kd.RA | apply Kd.RN | apply Kd.RD)); exact HO266.out) hg hat)
              have n5_ := Aside0.mk (hb)
              have n6_ := Aside0.mk (ho)
              clear BK246
              clear HO249
              clear HO253
              clear HO260
              clear HO266
              clear HB
              clear HO269
              have BK246 := n0_
              have HO249 := n1_
              have HO253 := n2_
              have HO260 := n3_
              have HO266 := n4_
              have HB := n5_
              have HO272 := n6_
              clear n0_ n1_ n2_ n3_ n4_ n5_ n6_
              clear ho hb hg hat
              refine hK.out _ _ ⟨(bC BK246.out 0).trans rfl, (bC BK246.out 1).trans rfl, (bC BK246.out 2).trans rfl, (bC BK246.out 3).trans rfl, (bC BK246.out 4).trans rfl⟩ (fun hHeld => ?_)
              clear hK K
              refine norm_ (a' := ?_) ?_ ?_
              rotate_left
              · show Act.put _ (some 46) _ = _
                simp only [Act.put, List.setIfInBounds_toArray, List.set_cons_zero, List.set_cons_succ, i64_w, i32_w]
                rfl
              refine pure_ (i := 9) (N := some 4) (v := ?_) (a' := ?_) #[true, true, true, true, true, true, true, true, true, true] rfl rfl (any_of HT_.out (by kernel_rfl)) (fun _ _ _ h => h) (Or.inl ⟨by rfl, ?_⟩) ?_ ?_
              rotate_left
              · intro w'
                go_simp
                with_reducible rfl
              rotate_left
              · simp only [Act.put, List.setIfInBounds_toArray, List.set_cons_zero, List.set_cons_succ, i64_w, i32_w]
                rfl
              refine done_ (done_of HT_.out (by kernel_rfl)) ?_
              try go_wp2
              go_ret
              exact ⟨_, by first | rfl | (simp [*, eN, eS] <;> rfl) | (simp [eN, eS]; generalize ByteArray.toList _ = l_; cases l_ <;> rfl), by (with_reducible repeat (first | apply Kd.RA | apply Kd.RN | apply Kd.RD)); exact Kd.RM HO272.out (fun _ hk => trivial), by repeat (first | (with_reducible first | exact HB.out | apply vA | apply vN | apply vD | refine vS ?_ GE246.out) | exact HB.out)⟩
            · rw [if_neg c14] at H
              exact absurd H (by simp)
          · rw [if_neg c12] at H
            exact absurd H (by simp)
        · rw [if_neg c10] at H
          exact absurd H (by simp)
      · replace c9 := Bool.eq_false_iff.mpr c9
        subst c9
        have H1 : (if t255.length < 140737488355328 then ((cooperageref1_Put.f k (t255 ++ [0]) (IntKind.u64.wrap ((a1_2.size : Int)))).bind fun t276 => (if t276.length + a1_2.size < 140737488355328 then ((cooperageref1_Put.f k (t276 ++ bytesOf a1_2) (IntKind.u64.wrap ((a1_3.size : Int)))).bind fun t282 => (if t282.length + a1_3.size < 140737488355328 then (some (t282 ++ bytesOf a1_3)) else (none))) else (none))) else (none)) = some r := by rw [if_neg (show ¬ (false = true) by decide)] at H; exact H
        clear H
        have H := H1
        clear H1
        by_cases c35 : t255.length < 140737488355328
        · rw [if_pos c35] at H
          have LMc35 := Aside0.mk c35
          clear c35
          obtain ⟨y273, hy273⟩ : ∃ y_ : List Int, y_ = (t255 ++ [0]) := ⟨_, rfl⟩
          replace H : ((cooperageref1_Put.f k y273 (IntKind.u64.wrap ((a1_2.size : Int)))).bind fun t276 => (if t276.length + a1_2.size < 140737488355328 then ((cooperageref1_Put.f k (t276 ++ bytesOf a1_2) (IntKind.u64.wrap ((a1_3.size : Int)))).bind fun t282 => (if t282.length + a1_3.size < 140737488355328 then (some (t282 ++ bytesOf a1_3)) else (none))) else (none))) = some r := by first | (rw [hy273]; with_reducible exact H) | (have H2_ := (Option.bind_some _ _).symm.trans H; rw [hy273]; with_reducible exact H2_) | (have H2_ := (Option.bind_some _ _).symm.trans H; with_reducible exact H2_) | with_reducible exact H | (rw [hy273]; exact H) | exact H
          have Ny273 := Aside0.mk hy273
          clear hy273
          replace H := Option.bind_eq_some_iff.mp H
          obtain ⟨t276, A360, H⟩ := H
          replace H : (if t276.length + a1_2.size < 140737488355328 then ((cooperageref1_Put.f k (t276 ++ bytesOf a1_2) (IntKind.u64.wrap ((a1_3.size : Int)))).bind fun t282 => (if t282.length + a1_3.size < 140737488355328 then (some (t282 ++ bytesOf a1_3)) else (none))) else (none)) = some r := H
          have A36 := Aside0.mk A360
          clear A360
          by_cases c37 : t276.length + a1_2.size < 140737488355328
          · rw [if_pos c37] at H
            have LMc37 := Aside0.mk c37
            clear c37
            obtain ⟨y279, hy279⟩ : ∃ y_ : List Int, y_ = (t276 ++ bytesOf a1_2) := ⟨_, rfl⟩
            replace H : ((cooperageref1_Put.f k y279 (IntKind.u64.wrap ((a1_3.size : Int)))).bind fun t282 => (if t282.length + a1_3.size < 140737488355328 then (some (t282 ++ bytesOf a1_3)) else (none))) = some r := by first | (rw [hy279]; with_reducible exact H) | (have H2_ := (Option.bind_some _ _).symm.trans H; rw [hy279]; with_reducible exact H2_) | (have H2_ := (Option.bind_some _ _).symm.trans H; with_reducible exact H2_) | with_reducible exact H | (rw [hy279]; exact H) | exact H
            have Ny279 := Aside0.mk hy279
            clear hy279
            replace H := Option.bind_eq_some_iff.mp H
            obtain ⟨t282, A380, H⟩ := H
            replace H : (if t282.length + a1_3.size < 140737488355328 then (some (t282 ++ bytesOf a1_3)) else (none)) = some r := H
            have A38 := Aside0.mk A380
            clear A380
            by_cases c39 : t282.length + a1_3.size < 140737488355328
            · rw [if_pos c39] at H
              have LMc39 := Aside0.mk c39
              clear c39
              obtain ⟨y285, hy285⟩ : ∃ y_ : List Int, y_ = (t282 ++ bytesOf a1_3) := ⟨_, rfl⟩
              replace H : (some y285) = some r := by first | (rw [hy285]; with_reducible exact H) | (have H2_ := (Option.bind_some _ _).symm.trans H; rw [hy285]; with_reducible exact H2_) | (have H2_ := (Option.bind_some _ _).symm.trans H; with_reducible exact H2_) | with_reducible exact H | (rw [hy285]; exact H) | exact H
              have Ny285 := Aside0.mk hy285
              clear hy285
              obtain rfl := Option.some.inj H
              go_enter Try.func38, Try.ntmps38
              try go_wp2_with (first | ((with_reducible refine gate_dst (N := 3) rfl ?_); refine box_event ?hg (N := 3) ?hd (cs := #[.int .i64 a1_0, .int .i64 a1_1, .string a1_2, .string a1_3, .bool false]) (t := 34) ?hr ?_; (case hd => rfl); (case hg => rfl); (case hr => first | (go_simp; done) | (go_simp; rfl)); intro gb246 hg w40 hbox hb; have n0_ := Aside0.mk (vT (by repeat (first | (with_reducible first | exact HB.out | apply vA | apply vN | apply vD) | exact HB.out)) hb); have n1_ := Aside0.mk (hbox); have n2_ := Aside0.mk ((by rw [hg]; exact (vZ (by repeat (first | (with_reducible first | exact HB.out | apply vA | apply vN | apply vD) | exact HB.out))) : w.heap.size ≤ gb246)); have n3_ := Aside0.mk ((by rw [hg]; exact (vZ (by repeat (first | (with_reducible first | exact HB.out | apply vA | apply vN | apply vD) | exact HB.out))) : w.heap.size ≤ gb246)); clear HB; have HB := n0_; have BK246 := n1_; have GW246 := n2_; have GE246 := n3_; clear n0_ n1_ n2_ n3_; clear hb hbox hg) | ((with_reducible refine gate_builtin (b := .append) (xs := #[(.const (.slice none 0 0)), .tmp 5]) rfl ?_); at_builtin; refine Kd.R_append_rows (Kd.int .u8) (w0 := w) w.heap.size rfl (.const (.slice none 0 0)) (.tmp 5) 37 5 (.int .u8 0) 1 rfl Try.underlying37 info5 rfl (by decide) (by omega) (.slice none 0 0) ([] : List Int) l0 _ _ _ (fun _ => True) (fun _ => False) rfl rfl ?aO ?aR (fun _ _ h => h) (fun _ h => h.elim) ?aF ?aB ?aS ?aL ?_; (case aR => repeat (first | exact (Kd.C_below HR0.out HB.out) | (with_reducible refine Kd.C_alloc ?_ _) | (with_reducible refine Kd.C_drewN ?_ _) | (with_reducible refine Kd.C_drew ?_))); (case aB => exact (by repeat (first | (with_reducible first | exact HB.out | apply vA | apply vN | apply vD | refine vS ?_ GE246.out) | exact HB.out))); (case aF => exact (fun _ _ => trivial)); (case aO => exact ((Kd.R_nil _ _ _ _ (fun _ => True)))); (case aS => exact (vZ (by repeat (first | (with_reducible first | exact HB.out | apply vA | apply vN | apply vD | refine vS ?_ GE246.out) | exact HB.out)))); (case aL => have := LMc3.out; omega); intro v248 w41 ho hb hg hat; rw [← Ny247.out] at ho; have n0_ := Aside0.mk (blk_grown (g := gb246) (o := .cells #[.int .i64 a1_0, .int .i64 a1_1, .string a1_2, .string a1_3, .bool false] 34 (0, 0)) (by (with_reducible repeat (first | refine bN ?_ _ | refine bD ?_ | refine bA ?_ _)); exact BK246.out) hg (by simp [Value.ownBlock])); have n1_ := Aside0.mk (hb); have n2_ := Aside0.mk (ho); clear BK246; clear HB; have BK246 := n0_; have HB := n1_; have HO249 := n2_; clear n0_ n1_ n2_; clear ho hb hg hat; have hcz42_0 : w41.cell? ⟨gb246, 0, none⟩ = some (.int .i64 a1_0) := (bC BK246.out 0).trans rfl; have hcz42_1 : w41.cell? ⟨gb246, 1, none⟩ = some (.int .i64 a1_1) := (bC BK246.out 1).trans rfl; have hcz42_2 : w41.cell? ⟨gb246, 2, none⟩ = some (.string a1_2) := (bC BK246.out 2).trans rfl; have hcz42_3 : w41.cell? ⟨gb246, 3, none⟩ = some (.string a1_3) := (bC BK246.out 3).trans rfl; have hcz42_4 : w41.cell? ⟨gb246, 4, none⟩ = some (.bool false) := (bC BK246.out 4).trans rfl; have hfz42_0 := bF BK246.out 0; have hfz42_1 := bF BK246.out 1; have hfz42_2 := bF BK246.out 2; have hfz42_3 := bF BK246.out 3; have hfz42_4 := bF BK246.out 4) | ((with_reducible refine gate_callee (f := 16) rfl ?_); refine goesL_ (some 8) rfl rfl Try.func16 (by kernel_rfl) rfl #[.agg #[.int .i64 a1_0, .int .i64 a1_1, .string a1_2, .string a1_3, .bool false]] rfl (by (try simp only [List.map_toArray, List.map_cons, List.map_nil]); first | done | rfl | (simp only [List.length_drop, List.length_take]; rfl)) ?_; (with_reducible refine (cooperageref1_Right.calls a1_0 a1_1 a1_2 a1_3 false true _ A4.out).mono ?_); rintro e w43 ⟨rfl, hb⟩; refine ⟨_, rfl, ?_⟩; have n0_ := Aside0.mk (Kd.RB (by (with_reducible repeat (first | apply Kd.RA | apply Kd.RN | apply Kd.RD)); exact HO249.out) hb); have n1_ := Aside0.mk (bB (g := gb246) (o := .cells #[.int .i64 a1_0, .int .i64 a1_1, .string a1_2, .string a1_3, .bool false] 34 (0, 0)) (by (with_reducible repeat (first | refine bN ?_ _ | refine bD ?_ | refine bA ?_ _)); exact BK246.out) hb); have n2_ := Aside0.mk (vT (by repeat (first | (with_reducible first | exact HB.out | apply vA | apply vN | apply vD | refine vS ?_ GE246.out) | exact HB.out)) hb); clear HO249; clear BK246; clear HB; have HO249 := n0_; have BK246 := n1_; have HB := n2_; clear n0_ n1_ n2_; (try clear hb); (try clear hb2); (try clear hk); (try clear hi); have hcz44_0 : w43.cell? ⟨gb246, 0, none⟩ = some (.int .i64 a1_0) := (bC BK246.out 0).trans rfl; have hcz44_1 : w43.cell? ⟨gb246, 1, none⟩ = some (.int .i64 a1_1) := (bC BK246.out 1).trans rfl; have hcz44_2 : w43.cell? ⟨gb246, 2, none⟩ = some (.string a1_2) := (bC BK246.out 2).trans rfl; have hcz44_3 : w43.cell? ⟨gb246, 3, none⟩ = some (.string a1_3) := (bC BK246.out 3).trans rfl; have hcz44_4 : w43.cell? ⟨gb246, 4, none⟩ = some (.bool false) := (bC BK246.out 4).trans rfl; have hfz44_0 := bF BK246.out 0; have hfz44_1 := bF BK246.out 1; have hfz44_2 := bF BK246.out 2; have hfz44_3 := bF BK246.out 3; have hfz44_4 := bF BK246.out 4; obtain ⟨Ao45, co45, eo45⟩ := Kd.R_slice HO249.out; subst eo45) | ((with_reducible refine gate_callee (f := 53) rfl ?_); refine goesL_ (some 15) rfl rfl Try.func53 (by kernel_rfl) rfl #[.slice Ao45 y247.length co45, .int .u64 (IntKind.u64.wrap (a1_0))] rfl (by (try simp only [List.map_toArray, List.map_cons, List.map_nil]); first | done | rfl | (simp only [List.length_drop, List.length_take]; rfl)) ?_; (with_reducible refine (cooperageref1_Put.calls k _ _ y247 (IntKind.u64.wrap (a1_0)) t251 _ ?side1 ?side2 A6.out).mono ?_); (case side1 => repeat (first | exact (Kd.R_reads' HO249.out).2.2 | (with_reducible refine Kd.C_alloc ?_ _) | (with_reducible refine Kd.C_drewN ?_ _) | (with_reducible refine Kd.C_drew ?_))); (case side2 => exact (Kd.R_reads' HO249.out).2.1); rintro e w46 ⟨v252, rfl, ho0, hb⟩; refine ⟨_, rfl, ?_⟩; have n0_ := Aside0.mk (Kd.R_elder' (by (with_reducible repeat (first | apply Kd.RA | apply Kd.RN | apply Kd.RD)); exact HO249.out) (Kd.R_base ho0) hb); have n1_ := Aside0.mk (Kd.RL (Kd.R_new' ho0 (Kd.R_lt (by (with_reducible repeat (first | apply Kd.RA | apply Kd.RN | apply Kd.RD)); exact HO249.out))) (vZ (by repeat (first | (with_reducible first | exact HB.out | apply vA | apply vN | apply vD | refine vS ?_ GE246.out) | exact HB.out)))); have n2_ := Aside0.mk (bB (g := gb246) (o := .cells #[.int .i64 a1_0, .int .i64 a1_1, .string a1_2, .string a1_3, .bool false] 34 (0, 0)) (by (with_reducible repeat (first | refine bN ?_ _ | refine bD ?_ | refine bA ?_ _)); exact BK246.out) hb); have n3_ := Aside0.mk (vT (by repeat (first | (with_reducible first | exact HB.out | apply vA | apply vN | apply vD | refine vS ?_ GE246.out) | exact HB.out)) hb); clear HO249; clear BK246; clear HB; have HO249 := n0_; have HO253 := n1_; have BK246 := n2_; have HB := n3_; clear n0_ n1_ n2_ n3_; (try clear hb); (try clear hb2); (try clear hk); (try clear hi); (try clear ho0); have hcz47_0 : w46.cell? ⟨gb246, 0, none⟩ = some (.int .i64 a1_0) := (bC BK246.out 0).trans rfl; have hcz47_1 : w46.cell? ⟨gb246, 1, none⟩ = some (.int .i64 a1_1) := (bC BK246.out 1).trans rfl; have hcz47_2 : w46.cell? ⟨gb246, 2, none⟩ = some (.string a1_2) := (bC BK246.out 2).trans rfl; have hcz47_3 : w46.cell? ⟨gb246, 3, none⟩ = some (.string a1_3) := (bC BK246.out 3).trans rfl; have hcz47_4 : w46.cell? ⟨gb246, 4, none⟩ = some (.bool false) := (bC BK246.out 4).trans rfl; have hfz47_0 := bF BK246.out 0; have hfz47_1 := bF BK246.out 1; have hfz47_2 := bF BK246.out 2; have hfz47_3 := bF BK246.out 3; have hfz47_4 := bF BK246.out 4) | ((with_reducible refine gate_callee (f := 55) rfl ?_); refine goesL_ (some 19) rfl rfl Try.func55 (by kernel_rfl) rfl #[.int .i64 a1_1] rfl (by (try simp only [List.map_toArray, List.map_cons, List.map_nil]); first | done | rfl | (simp only [List.length_drop, List.length_take]; rfl)) ?_; (with_reducible refine (cooperageref1_Fold.calls a1_1 t254 _ A7.out).mono ?_); rintro e w' ⟨rfl, ⟨nd, rfl⟩⟩; refine ⟨_, rfl, ?_⟩; obtain ⟨Ao48, co48, eo48⟩ := Kd.R_slice HO253.out; subst eo48) | ((with_reducible refine gate_callee (f := 53) rfl ?_); refine goesL_ (some 20) rfl rfl Try.func53 (by kernel_rfl) rfl #[.slice Ao48 t251.length co48, .int .u64 t254] rfl (by (try simp only [List.map_toArray, List.map_cons, List.map_nil]); first | done | rfl | (simp only [List.length_drop, List.length_take]; rfl)) ?_; (with_reducible refine (cooperageref1_Put.calls k _ _ t251 t254 t255 _ ?side1 ?side2 A8.out).mono ?_); (case side1 => repeat (first | exact (Kd.R_reads' HO253.out).2.2 | (with_reducible refine Kd.C_alloc ?_ _) | (with_reducible refine Kd.C_drewN ?_ _) | (with_reducible refine Kd.C_drew ?_))); (case side2 => exact (Kd.R_reads' HO253.out).2.1); rintro e w49 ⟨v256, rfl, ho0, hb⟩; refine ⟨_, rfl, ?_⟩; have n0_ := Aside0.mk (Kd.R_elder' (by (with_reducible repeat (first | apply Kd.RA | apply Kd.RN | apply Kd.RD)); exact HO249.out) (Kd.R_base ho0) hb); have n1_ := Aside0.mk (Kd.R_elder' (by (with_reducible repeat (first | apply Kd.RA | apply Kd.RN | apply Kd.RD)); exact HO253.out) (Kd.R_base ho0) hb); have n2_ := Aside0.mk (Kd.RL (Kd.R_new' (Kd.R_new' ho0 (Kd.R_lt (by (with_reducible repeat (first | apply Kd.RA | apply Kd.RN | apply Kd.RD)); exact HO249.out))) (Kd.R_lt (by (with_reducible repeat (first | apply Kd.RA | apply Kd.RN | apply Kd.RD)); exact HO253.out))) (vZ (by repeat (first | (with_reducible first | exact HB.out | apply vA | apply vN | apply vD | refine vS ?_ GE246.out) | exact HB.out)))); have n3_ := Aside0.mk (bB (g := gb246) (o := .cells #[.int .i64 a1_0, .int .i64 a1_1, .string a1_2, .string a1_3, .bool false] 34 (0, 0)) (by (with_reducible repeat (first | refine bN ?_ _ | refine bD ?_ | refine bA ?_ _)); exact BK246.out) hb); have n4_ := Aside0.mk (vT (by repeat (first | (with_reducible first | exact HB.out | apply vA | apply vN | apply vD | refine vS ?_ GE246.out) | exact HB.out)) hb); clear HO249; clear HO253; clear BK246; clear HB; have HO249 := n0_; have HO253 := n1_; have HO257 := n2_; have BK246 := n3_; have HB := n4_; clear n0_ n1_ n2_ n3_ n4_; (try clear hb); (try clear hb2); (try clear hk); (try clear hi); (try clear ho0); have hcz50_0 : w49.cell? ⟨gb246, 0, none⟩ = some (.int .i64 a1_0) := (bC BK246.out 0).trans rfl; have hcz50_1 : w49.cell? ⟨gb246, 1, none⟩ = some (.int .i64 a1_1) := (bC BK246.out 1).trans rfl; have hcz50_2 : w49.cell? ⟨gb246, 2, none⟩ = some (.string a1_2) := (bC BK246.out 2).trans rfl; have hcz50_3 : w49.cell? ⟨gb246, 3, none⟩ = some (.string a1_3) := (bC BK246.out 3).trans rfl; have hcz50_4 : w49.cell? ⟨gb246, 4, none⟩ = some (.bool false) := (bC BK246.out 4).trans rfl; have hfz50_0 := bF BK246.out 0; have hfz50_1 := bF BK246.out 1; have hfz50_2 := bF BK246.out 2; have hfz50_3 := bF BK246.out 3; have hfz50_4 := bF BK246.out 4) | ((with_reducible refine gate_builtin (b := .append) (xs := #[(.tmp 26), .tmp 27]) rfl ?_); at_builtin; refine Kd.R_append (Kd.int .u8) (w0 := w) w.heap.size rfl (.tmp 26) (.tmp 27) 37 5 (.int .u8 0) 1 rfl Try.underlying37 info5 rfl (by decide) (by omega) v256 t255 0 [.int .u8 0] (fun k_ => some k_ ≠ (.slice Ao45 y247.length co45 : Value).ownBlock ∧ some k_ ≠ (.slice Ao48 t251.length co48 : Value).ownBlock) (fun _ => False) rfl rfl ?aP (fun _ hk => hk.elim) ?aF ?aO ?aB ?aS ?aL ?_; (case aP => exact rfl); (case aB => exact (by repeat (first | (with_reducible first | exact HB.out | apply vA | apply vN | apply vD | refine vS ?_ GE246.out) | exact HB.out))); (case aF => exact (fun k_ hk => ⟨Kd.fresh' (Kd.R_lt (by (with_reducible repeat (first | apply Kd.RA | apply Kd.RN | apply Kd.RD)); exact HO249.out)) k_ hk, Kd.fresh' (Kd.R_lt (by (with_reducible repeat (first | apply Kd.RA | apply Kd.RN | apply Kd.RD)); exact HO253.out)) k_ hk⟩)); (case aO => exact (by (with_reducible repeat (first | apply Kd.RA | apply Kd.RN | apply Kd.RD)); exact Kd.RM HO257.out (fun _ hk => ⟨hk.1.2, hk.2⟩))); (case aS => exact (vZ (by repeat (first | (with_reducible first | exact HB.out | apply vA | apply vN | apply vD | refine vS ?_ GE246.out) | exact HB.out)))); (case aL => have := LMc35.out; omega); intro v274 w51 ho hb hg hat; rw [← Ny273.out] at ho; have n0_ := Aside0.mk (blk_grown (g := gb246) (o := .cells #[.int .i64 a1_0, .int .i64 a1_1, .string a1_2, .string a1_3, .bool false] 34 (0, 0)) (by (with_reducible repeat (first | refine bN ?_ _ | refine bD ?_ | refine bA ?_ _)); exact BK246.out) hg (Kd.R_ne HO257.out BK246.out (by decide))); have n1_ := Aside0.mk (Kd.R_after (ok := (fun k_ => some k_ ≠ (.slice Ao48 t251.length co48 : Value).ownBlock)) (by (with_reducible repeat (first | apply Kd.RA | apply Kd.RN | apply Kd.RD)); exact Kd.RM HO249.out (fun _ hk => ⟨hk.1.2, hk.2⟩)) hg hat); have n2_ := Aside0.mk (Kd.R_after (ok := (fun k_ => some k_ ≠ (.slice Ao45 y247.length co45 : Value).ownBlock)) (by (with_reducible repeat (first | apply Kd.RA | apply Kd.RN | apply Kd.RD)); exact Kd.RM HO253.out (fun _ hk => ⟨hk.1.2, hk.2⟩)) hg hat); have n3_ := Aside0.mk (hb); have n4_ := Aside0.mk (ho); clear BK246; clear HO249; clear HO253; clear HB; clear HO257; have BK246 := n0_; have HO249 := n1_; have HO253 := n2_; have HB := n3_; have HO275 := n4_; clear n0_ n1_ n2_ n3_ n4_; clear ho hb hg hat))
              have n0_ := Aside0.mk (Kd.RD HO249.out)
              have n1_ := Aside0.mk (Kd.RD HO253.out)
              have n2_ := Aside0.mk (Kd.RD HO275.out)
              have n3_ := Aside0.mk (bD BK246.out)
              have n4_ := Aside0.mk (vD HB.out)
              clear HO249
              clear HO253
              clear HO275
              clear BK246
              clear HB
              have HO249 := n0_
              have HO253 := n1_
              have HO275 := n2_
              have BK246 := n3_
              have HB := n4_
              clear n0_ n1_ n2_ n3_ n4_
              obtain ⟨Ao53, co53, eo53⟩ := Kd.R_slice HO275.out
              (first | subst eo53 | (injection eo53 with f1_ f2_ f3_; have f4_ := f1_.symm; have f5_ := f3_.symm; clear f1_ f2_ f3_; subst f4_; subst f5_))
              refine start_ (n := 10) (S := fun w' => w'.cell? ⟨gb246, 0, none⟩ = some (.int .i64 a1_0) ∧ w'.cell? ⟨gb246, 1, none⟩ = some (.int .i64 a1_1) ∧ w'.cell? ⟨gb246, 2, none⟩ = some (.string a1_2) ∧ w'.cell? ⟨gb246, 3, none⟩ = some (.string a1_3) ∧ w'.cell? ⟨gb246, 4, none⟩ = some (.bool false)) (ds := []) #[false, false, false, false, false, false, false, false, false, false] (by kernel_rfl) rfl rfl ⟨(bC BK246.out 0).trans rfl, (bC BK246.out 1).trans rfl, (bC BK246.out 2).trans rfl, (bC BK246.out 3).trans rfl, (bC BK246.out 4).trans rfl⟩ (fun hHeld => ?_); refine with_tabW cooperageref1_PutRecord.tab9 cooperageref1_PutRecord.bits9 (fun HT_ HW_ => ?_)
              generalize w51.drew = w52 at HO249 HO253 HO275 BK246 HB hHeld ⊢
              refine pure_ (i := 0) (N := some 29) (v := ?_) (a' := ?_) #[true, false, false, false, false, false, false, false, false, false] rfl rfl (any_of HT_.out (by kernel_rfl)) (fun _ _ _ h => h) (Or.inl ⟨by rfl, ?_⟩) ?_ ?_
              rotate_left
              · intro w'
                go_simp
                with_reducible rfl
              rotate_left
              · simp only [Act.put, List.setIfInBounds_toArray, List.set_cons_zero, List.set_cons_succ, i64_w, i32_w]
                rfl
              refine pure_ (i := 1) (N := some 30) (v := ?_) (a' := ?_) #[true, true, false, false, false, false, false, false, false, false] rfl rfl (any_of HT_.out (by kernel_rfl)) (fun _ _ _ h => h) (Or.inl ⟨by rfl, ?_⟩) ?_ ?_
              rotate_left
              · intro w'
                go_simp
                with_reducible rfl
              rotate_left
              · simp only [Act.put, List.setIfInBounds_toArray, List.set_cons_zero, List.set_cons_succ, i64_w, i32_w]
                rfl
              refine pure_ (i := 6) (N := some 35) (v := ?_) (a' := ?_) #[true, true, false, false, false, false, true, false, false, false] rfl rfl (any_of HT_.out (by kernel_rfl)) (fun _ _ _ h => h) (Or.inl ⟨by rfl, ?_⟩) ?_ ?_
              rotate_left
              · intro w'
                go_simp
                with_reducible rfl
              rotate_left
              · simp only [Act.put, List.setIfInBounds_toArray, List.set_cons_zero, List.set_cons_succ, i64_w, i32_w]
                rfl
              refine take_ (i := 2) (N := some 31) (v := ?_) (a' := ?_) #[true, true, true, false, false, false, true, false, false, false] rfl rfl (take_ofW HT_.out HW_.out (by kernel_rfl)) (fun _ _ _ h => h) (Or.inl ⟨by rfl, ?_⟩) hHeld ?_ ?_
              rotate_left
              · rintro w' ⟨s0, s1, s2, s3, s4⟩
                go_simp
                with_reducible rfl
              rotate_left
              · simp only [Act.put, List.setIfInBounds_toArray, List.set_cons_zero, List.set_cons_succ, i64_w, i32_w]
                rfl
              refine pure_ (i := 3) (N := some 32) (v := ?_) (a' := ?_) #[true, true, true, true, false, false, true, false, false, false] rfl rfl (any_of HT_.out (by kernel_rfl)) (fun _ _ _ h => h) (Or.inl ⟨by rfl, ?_⟩) ?_ ?_
              rotate_left
              · intro w'
                go_simp
                with_reducible rfl
              rotate_left
              · simp only [Act.put, List.setIfInBounds_toArray, List.set_cons_zero, List.set_cons_succ, i64_w, i32_w]
                rfl
              refine pure_ (i := 4) (N := some 33) (v := ?_) (a' := ?_) #[true, true, true, true, true, false, true, false, false, false] rfl rfl (any_of HT_.out (by kernel_rfl)) (fun _ _ _ h => h) (Or.inl ⟨by rfl, ?_⟩) ?_ ?_
              rotate_left
              · intro w'
                go_simp
                with_reducible rfl
              rotate_left
              · simp only [Act.put, List.setIfInBounds_toArray, List.set_cons_zero, List.set_cons_succ, i64_w, i32_w]
                rfl
              refine take_ (i := 7) (N := some 36) (v := ?_) (a' := ?_) #[true, true, true, true, true, false, true, true, false, false] rfl rfl (take_ofW HT_.out HW_.out (by kernel_rfl)) (fun _ _ _ h => h) (Or.inl ⟨by rfl, ?_⟩) hHeld ?_ ?_
              rotate_left
              · rintro w' ⟨s0, s1, s2, s3, s4⟩
                go_simp
                with_reducible rfl
              rotate_left
              · simp only [Act.put, List.setIfInBounds_toArray, List.set_cons_zero, List.set_cons_succ, i64_w, i32_w]
                rfl
              refine one_ (i := 5) (N := some 34) #[true, true, true, true, true, true, true, true, false, false] rfl rfl (one_of HT_.out (by kernel_rfl)) (by decide) (fun K hK => ?_)
              refine goes_ Try.func53 (by kernel_rfl) rfl #[.slice Ao53 y273.length co53, .int .u64 (IntKind.u64.wrap ((a1_2.size : Int)))] (by rfl) rfl rfl (by (try simp only [List.map_toArray, List.map_cons, List.map_nil]); first | done | rfl | (simp only [List.length_drop, List.length_take]; rfl)) ?_
              with_reducible refine (cooperageref1_Put.calls k _ _ y273 (IntKind.u64.wrap ((a1_2.size : Int))) t276 _ ?side1 ?side2 A36.out).mono ?_
              (case side1 => repeat (first | exact (Kd.R_reads' HO275.out).2.2 | (with_reducible refine Kd.C_alloc ?_ _) | (with_reducible refine Kd.C_drewN ?_ _) | (with_reducible refine Kd.C_drew ?_)))
              (case side2 => exact (Kd.R_reads' HO275.out).2.1)
              rintro e w54 ⟨v277, rfl, ho0, hb⟩
              refine ⟨_, rfl, ?_⟩
              have n0_ := Aside0.mk (Kd.R_elder' (by (with_reducible repeat (first | apply Kd.RA | apply Kd.RN | apply Kd.RD)); exact HO249.out) (Kd.R_base ho0) hb)
              have n1_ := Aside0.mk (Kd.R_elder' (by (with_reducible repeat (first | apply Kd.RA | apply Kd.RN | apply Kd.RD)); exact HO253.out) (Kd.R_base ho0) hb)
              have n2_ := Aside0.mk (Kd.R_elder' (by (with_reducible repeat (first | apply Kd.RA | apply Kd.RN | apply Kd.RD)); exact HO275.out) (Kd.R_base ho0) hb)
              have n3_ := Aside0.mk (Kd.RL (Kd.R_new' (Kd.R_new' (Kd.R_new' ho0 (Kd.R_lt (by (with_reducible repeat (first | apply Kd.RA | apply Kd.RN | apply Kd.RD)); exact HO249.out))) (Kd.R_lt (by (with_reducible repeat (first | apply Kd.RA | apply Kd.RN | apply Kd.RD)); exact HO253.out))) (Kd.R_lt (by (with_reducible repeat (first | apply Kd.RA | apply Kd.RN | apply Kd.RD)); exact HO275.out))) (vZ (by repeat (first | (with_reducible first | exact HB.out | apply vA | apply vN | apply vD | refine vS ?_ GE246.out) | exact HB.out))))
              have n4_ := Aside0.mk (bB (g := gb246) (o := .cells #[.int .i64 a1_0, .int .i64 a1_1, .string a1_2, .string a1_3, .bool false] 34 (0, 0)) (by (with_reducible repeat (first | refine bN ?_ _ | refine bD ?_ | refine bA ?_ _)); exact BK246.out) hb)
              have n5_ := Aside0.mk (vT (by repeat (first | (with_reducible first | exact HB.out | apply vA | apply vN | apply vD | refine vS ?_ GE246.out) | exact HB.out)) hb)
              clear HO249
              clear HO253
              clear HO275
              clear BK246
              clear HB
              have HO249 := n0_
              have HO253 := n1_
              have HO275 := n2_
              have HO278 := n3_
              have BK246 := n4_
              have HB := n5_
              clear n0_ n1_ n2_ n3_ n4_ n5_
              (try clear hb)
              (try clear hb2)
              (try clear hk)
              (try clear hi)
              (try clear ho0)
              refine hK.out _ _ ⟨(bC BK246.out 0).trans rfl, (bC BK246.out 1).trans rfl, (bC BK246.out 2).trans rfl, (bC BK246.out 3).trans rfl, (bC BK246.out 4).trans rfl⟩ (fun hHeld => ?_)
              clear hK K
              refine norm_ (a' := ?_) ?_ ?_
              rotate_left
              · show Act.put _ (some 34) _ = _
                simp only [Act.put, List.setIfInBounds_toArray, List.set_cons_zero, List.set_cons_succ, i64_w, i32_w]
                rfl
              refine one_ (i := 8) (N := some 37) #[true, true, true, true, true, true, true, true, true, false] rfl rfl (one_of HT_.out (by kernel_rfl)) (by decide) (fun K hK => ?_)
              refine R_append_str_step (w0 := w) w.heap.size (by rfl) (.tmp 34) _ 37 9 5 rfl Try.underlying37 Try.underlying9 info5 v277 t276 a1_2 (fun k_ => some k_ ≠ (.slice Ao45 y247.length co45 : Value).ownBlock ∧ some k_ ≠ (.slice Ao48 t251.length co48 : Value).ownBlock ∧ some k_ ≠ (.slice Ao53 y273.length co53 : Value).ownBlock) rfl rfl ?aO ?aF ?aB ?aS ?aL ?_
              (case aB => exact (by repeat (first | (with_reducible first | exact HB.out | apply vA | apply vN | apply vD | refine vS ?_ GE246.out) | exact HB.out)))
              (case aF => exact (fun k_ hk => ⟨Kd.fresh' (Kd.R_lt (by (with_reducible repeat (first | apply Kd.RA | apply Kd.RN | apply Kd.RD)); exact HO249.out)) k_ hk, Kd.fresh' (Kd.R_lt (by (with_reducible repeat (first | apply Kd.RA | apply Kd.RN | apply Kd.RD)); exact HO253.out)) k_ hk, Kd.fresh' (Kd.R_lt (by (with_reducible repeat (first | apply Kd.RA | apply Kd.RN | apply Kd.RD)); exact HO275.out)) k_ hk⟩))
              (case aO => exact (by (with_reducible repeat (first | apply Kd.RA | apply Kd.RN | apply Kd.RD)); exact Kd.RM HO278.out (fun _ hk => ⟨hk.1.1.2, ⟨hk.1.2, hk.2⟩⟩)))
              (case aS => exact (vZ (by repeat (first | (with_reducible first | exact HB.out | apply vA | apply vN | apply vD | refine vS ?_ GE246.out) | exact HB.out))))
              (case aL => have := LMc37.out; omega)
              intro v280 w55 ho hb hg hat
              rw [← Ny279.out] at ho
              have n0_ := Aside0.mk (blk_grown (g := gb246) (o := .cells #[.int .i64 a1_0, .int .i64 a1_1, .string a1_2, .string a1_3, .bool false] 34 (0, 0)) (by (with_reducible repeat (first | refine bN ?_ _ | refine bD ?_ | refine bA ?_ _)); exact BK246.out) hg (Kd.R_ne HO278.out BK246.out (by decide)))
              have n1_ := Aside0.mk (Kd.R_after (ok := (fun k_ => some k_ ≠ (.slice Ao48 t251.length co48 : Value).ownBlock ∧ some k_ ≠ (.slice Ao53 y273.length co53 : Value).ownBlock)) (by (with_reducible repeat (first | apply Kd.RA | apply Kd.RN | apply Kd.RD)); exact HO249.out) hg hat)
              have n2_ := Aside0.mk (Kd.R_after (ok := (fun k_ => some k_ ≠ (.slice Ao45 y247.length co45 : Value).ownBlock ∧ some k_ ≠ (.slice Ao53 y273.length co53 : Value).ownBlock)) (by (with_reducible repeat (first | apply Kd.RA | apply Kd.RN | apply Kd.RD)); exact HO253.out) hg hat)
              have n3_ := Aside0.mk (Kd.R_after (ok := (fun k_ => some k_ ≠ (.slice Ao45 y247.length co45 : Value).ownBlock ∧ some k_ ≠ (.slice Ao48 t251.length co48 : Value).ownBlock)) (by (with_reducible repeat (first | apply Kd.RA | apply Kd.RN | apply Kd.RD)); exact HO275.out) hg hat)
              have n4_ := Aside0.mk (hb)
              have n5_ := Aside0.mk (ho)
              clear BK246
              clear HO249
              clear HO253
              clear HO275
              clear HB
              clear HO278
              have BK246 := n0_
              have HO249 := n1_
              have HO253 := n2_
              have HO275 := n3_
              have HB := n4_
              have HO281 := n5_
              clear n0_ n1_ n2_ n3_ n4_ n5_
              clear ho hb hg hat
              refine hK.out _ _ ⟨(bC BK246.out 0).trans rfl, (bC BK246.out 1).trans rfl, (bC BK246.out 2).trans rfl, (bC BK246.out 3).trans rfl, (bC BK246.out 4).trans rfl⟩ (fun hHeld => ?_)
              clear hK K
              refine norm_ (a' := ?_) ?_ ?_
              rotate_left
              · show Act.put _ (some 37) _ = _
                simp only [Act.put, List.setIfInBounds_toArray, List.set_cons_zero, List.set_cons_succ, i64_w, i32_w]
                rfl
              refine pure_ (i := 9) (N := some 0) (v := ?_) (a' := ?_) #[true, true, true, true, true, true, true, true, true, true] rfl rfl (any_of HT_.out (by kernel_rfl)) (fun _ _ _ h => h) (Or.inl ⟨by rfl, ?_⟩) ?_ ?_
              rotate_left
              · intro w'
                go_simp
                with_reducible rfl
              rotate_left
              · simp only [Act.put, List.setIfInBounds_toArray, List.set_cons_zero, List.set_cons_succ, i64_w, i32_w]
                rfl
              refine done_ (done_of HT_.out (by kernel_rfl)) ?_
              try go_wp2
              have n0_ := Aside0.mk (Kd.RD HO249.out)
              have n1_ := Aside0.mk (Kd.RD HO253.out)
              have n2_ := Aside0.mk (Kd.RD HO275.out)
              have n3_ := Aside0.mk (Kd.RD HO281.out)
              have n4_ := Aside0.mk (bD BK246.out)
              have n5_ := Aside0.mk (vD HB.out)
              clear HO249
              clear HO253
              clear HO275
              clear HO281
              clear BK246
              clear HB
              have HO249 := n0_
              have HO253 := n1_
              have HO275 := n2_
              have HO281 := n3_
              have BK246 := n4_
              have HB := n5_
              clear n0_ n1_ n2_ n3_ n4_ n5_
              obtain ⟨Ao57, co57, eo57⟩ := Kd.R_slice HO281.out
              (first | subst eo57 | (injection eo57 with f1_ f2_ f3_; have f4_ := f1_.symm; have f5_ := f3_.symm; clear f1_ f2_ f3_; subst f4_; subst f5_))
              refine start_ (n := 10) (S := fun w' => w'.cell? ⟨gb246, 0, none⟩ = some (.int .i64 a1_0) ∧ w'.cell? ⟨gb246, 1, none⟩ = some (.int .i64 a1_1) ∧ w'.cell? ⟨gb246, 2, none⟩ = some (.string a1_2) ∧ w'.cell? ⟨gb246, 3, none⟩ = some (.string a1_3) ∧ w'.cell? ⟨gb246, 4, none⟩ = some (.bool false)) (ds := []) #[false, false, false, false, false, false, false, false, false, false] (by kernel_rfl) rfl rfl ⟨(bC BK246.out 0).trans rfl, (bC BK246.out 1).trans rfl, (bC BK246.out 2).trans rfl, (bC BK246.out 3).trans rfl, (bC BK246.out 4).trans rfl⟩ (fun hHeld => ?_); refine with_tabW cooperageref1_PutRecord.tab10 cooperageref1_PutRecord.bits10 (fun HT_ HW_ => ?_)
              generalize w55.drew = w56 at HO249 HO253 HO275 HO281 BK246 HB hHeld ⊢
              refine pure_ (i := 0) (N := some 38) (v := ?_) (a' := ?_) #[true, false, false, false, false, false, false, false, false, false] rfl rfl (any_of HT_.out (by kernel_rfl)) (fun _ _ _ h => h) (Or.inl ⟨by rfl, ?_⟩) ?_ ?_
              rotate_left
              · intro w'
                go_simp
                with_reducible rfl
              rotate_left
              · simp only [Act.put, List.setIfInBounds_toArray, List.set_cons_zero, List.set_cons_succ, i64_w, i32_w]
                rfl
              refine pure_ (i := 1) (N := some 39) (v := ?_) (a' := ?_) #[true, true, false, false, false, false, false, false, false, false] rfl rfl (any_of HT_.out (by kernel_rfl)) (fun _ _ _ h => h) (Or.inl ⟨by rfl, ?_⟩) ?_ ?_
              rotate_left
              · intro w'
                go_simp
                with_reducible rfl
              rotate_left
              · simp only [Act.put, List.setIfInBounds_toArray, List.set_cons_zero, List.set_cons_succ, i64_w, i32_w]
                rfl
              refine pure_ (i := 6) (N := some 44) (v := ?_) (a' := ?_) #[true, true, false, false, false, false, true, false, false, false] rfl rfl (any_of HT_.out (by kernel_rfl)) (fun _ _ _ h => h) (Or.inl ⟨by rfl, ?_⟩) ?_ ?_
              rotate_left
              · intro w'
                go_simp
                with_reducible rfl
              rotate_left
              · simp only [Act.put, List.setIfInBounds_toArray, List.set_cons_zero, List.set_cons_succ, i64_w, i32_w]
                rfl
              refine take_ (i := 2) (N := some 40) (v := ?_) (a' := ?_) #[true, true, true, false, false, false, true, false, false, false] rfl rfl (take_ofW HT_.out HW_.out (by kernel_rfl)) (fun _ _ _ h => h) (Or.inl ⟨by rfl, ?_⟩) hHeld ?_ ?_
              rotate_left
              · rintro w' ⟨s0, s1, s2, s3, s4⟩
                go_simp
                with_reducible rfl
              rotate_left
              · simp only [Act.put, List.setIfInBounds_toArray, List.set_cons_zero, List.set_cons_succ, i64_w, i32_w]
                rfl
              refine pure_ (i := 3) (N := some 41) (v := ?_) (a' := ?_) #[true, true, true, true, false, false, true, false, false, false] rfl rfl (any_of HT_.out (by kernel_rfl)) (fun _ _ _ h => h) (Or.inl ⟨by rfl, ?_⟩) ?_ ?_
              rotate_left
              · intro w'
                go_simp
                with_reducible rfl
              rotate_left
              · simp only [Act.put, List.setIfInBounds_toArray, List.set_cons_zero, List.set_cons_succ, i64_w, i32_w]
                rfl
              refine pure_ (i := 4) (N := some 42) (v := ?_) (a' := ?_) #[true, true, true, true, true, false, true, false, false, false] rfl rfl (any_of HT_.out (by kernel_rfl)) (fun _ _ _ h => h) (Or.inl ⟨by rfl, ?_⟩) ?_ ?_
              rotate_left
              · intro w'
                go_simp
                with_reducible rfl
              rotate_left
              · simp only [Act.put, List.setIfInBounds_toArray, List.set_cons_zero, List.set_cons_succ, i64_w, i32_w]
                rfl
              refine take_ (i := 7) (N := some 45) (v := ?_) (a' := ?_) #[true, true, true, true, true, false, true, true, false, false] rfl rfl (take_ofW HT_.out HW_.out (by kernel_rfl)) (fun _ _ _ h => h) (Or.inl ⟨by rfl, ?_⟩) hHeld ?_ ?_
              rotate_left
              · rintro w' ⟨s0, s1, s2, s3, s4⟩
                go_simp
                with_reducible rfl
              rotate_left
              · simp only [Act.put, List.setIfInBounds_toArray, List.set_cons_zero, List.set_cons_succ, i64_w, i32_w]
                rfl
              refine one_ (i := 5) (N := some 43) #[true, true, true, true, true, true, true, true, false, false] rfl rfl (one_of HT_.out (by kernel_rfl)) (by decide) (fun K hK => ?_)
              refine goes_ Try.func53 (by kernel_rfl) rfl #[.slice Ao57 y279.length co57, .int .u64 (IntKind.u64.wrap ((a1_3.size : Int)))] (by rfl) rfl rfl (by (try simp only [List.map_toArray, List.map_cons, List.map_nil]); first | done | rfl | (simp only [List.length_drop, List.length_take]; rfl)) ?_
              with_reducible refine (cooperageref1_Put.calls k _ _ y279 (IntKind.u64.wrap ((a1_3.size : Int))) t282 _ ?side1 ?side2 A38.out).mono ?_
              (case side1 => repeat (first | exact (Kd.R_reads' HO281.out).2.2 | (with_reducible refine Kd.C_alloc ?_ _) | (with_reducible refine Kd.C_drewN ?_ _) | (with_reducible refine Kd.C_drew ?_)))
              (case side2 => exact (Kd.R_reads' HO281.out).2.1)
              rintro e w58 ⟨v283, rfl, ho0, hb⟩
              refine ⟨_, rfl, ?_⟩
              have n0_ := Aside0.mk (Kd.R_elder' (by (with_reducible repeat (first | apply Kd.RA | apply Kd.RN | apply Kd.RD)); exact HO249.out) (Kd.R_base ho0) hb)
              have n1_ := Aside0.mk (Kd.R_elder' (by (with_reducible repeat (first | apply Kd.RA | apply Kd.RN | apply Kd.RD)); exact HO253.out) (Kd.R_base ho0) hb)
              have n2_ := Aside0.mk (Kd.R_elder' (by (with_reducible repeat (first | apply Kd.RA | apply Kd.RN | apply Kd.RD)); exact HO275.out) (Kd.R_base ho0) hb)
              have n3_ := Aside0.mk (Kd.R_elder' (by (with_reducible repeat (first | apply Kd.RA | apply Kd.RN | apply Kd.RD)); exact HO281.out) (Kd.R_base ho0) hb)
              have n4_ := Aside0.mk (Kd.RL (Kd.R_new' (Kd.R_new' (Kd.R_new' (Kd.R_new' ho0 (Kd.R_lt (by (with_reducible repeat (first | apply Kd.RA | apply Kd.RN | apply Kd.RD)); exact HO249.out))) (Kd.R_lt (by (with_reducible repeat (first | apply Kd.RA | apply Kd.RN | apply Kd.RD)); exact HO253.out))) (Kd.R_lt (by (with_reducible repeat (first | apply Kd.RA | apply Kd.RN | apply Kd.RD)); exact HO275.out))) (Kd.R_lt (by (with_reducible repeat (first | apply Kd.RA | apply Kd.RN | apply Kd.RD)); exact HO281.out))) (vZ (by repeat (first | (with_reducible first | exact HB.out | apply vA | apply vN | apply vD | refine vS ?_ GE246.out) | exact HB.out))))
              have n5_ := Aside0.mk (bB (g := gb246) (o := .cells #[.int .i64 a1_0, .int .i64 a1_1, .string a1_2, .string a1_3, .bool false] 34 (0, 0)) (by (with_reducible repeat (first | refine bN ?_ _ | refine bD ?_ | refine bA ?_ _)); exact BK246.out) hb)
              have n6_ := Aside0.mk (vT (by repeat (first | (with_reducible first | exact HB.out | apply vA | apply vN | apply vD | refine vS ?_ GE246.out) | exact HB.out)) hb)
              clear HO249
              clear HO253
              clear HO275
              clear HO281
              clear BK246
              clear HB
              have HO249 := n0_
              have HO253 := n1_
              have HO275 := n2_
              have HO281 := n3_
              have HO284 := n4_
              have BK246 := n5_
              have HB := n6_
              clear n0_ n1_ n2_ n3_ n4_ n5_ n6_
              (try clear hb)
              (try clear hb2)
              (try clear hk)
              (try clear hi)
              (try clear ho0)
              refine hK.out _ _ ⟨(bC BK246.out 0).trans rfl, (bC BK246.out 1).trans rfl, (bC BK246.out 2).trans rfl, (bC BK246.out 3).trans rfl, (bC BK246.out 4).trans rfl⟩ (fun hHeld => ?_)
              clear hK K
              refine norm_ (a' := ?_) ?_ ?_
              rotate_left
              · show Act.put _ (some 43) _ = _
                simp only [Act.put, List.setIfInBounds_toArray, List.set_cons_zero, List.set_cons_succ, i64_w, i32_w]
                rfl
              refine one_ (i := 8) (N := some 46) #[true, true, true, true, true, true, true, true, true, false] rfl rfl (one_of HT_.out (by kernel_rfl)) (by decide) (fun K hK => ?_)
              refine R_append_str_step (w0 := w) w.heap.size (by rfl) (.tmp 43) _ 37 9 5 rfl Try.underlying37 Try.underlying9 info5 v283 t282 a1_3 (fun k_ => some k_ ≠ (.slice Ao45 y247.length co45 : Value).ownBlock ∧ some k_ ≠ (.slice Ao48 t251.length co48 : Value).ownBlock ∧ some k_ ≠ (.slice Ao53 y273.length co53 : Value).ownBlock ∧ some k_ ≠ (.slice Ao57 y279.length co57 : Value).ownBlock) rfl rfl ?aO ?aF ?aB ?aS ?aL ?_
              (case aB => exact (by repeat (first | (with_reducible first | exact HB.out | apply vA | apply vN | apply vD | refine vS ?_ GE246.out) | exact HB.out)))
              (case aF => exact (fun k_ hk => ⟨Kd.fresh' (Kd.R_lt (by (with_reducible repeat (first | apply Kd.RA | apply Kd.RN | apply Kd.RD)); exact HO249.out)) k_ hk, Kd.fresh' (Kd.R_lt (by (with_reducible repeat (first | apply Kd.RA | apply Kd.RN | apply Kd.RD)); exact HO253.out)) k_ hk, Kd.fresh' (Kd.R_lt (by (with_reducible repeat (first | apply Kd.RA | apply Kd.RN | apply Kd.RD)); exact HO275.out)) k_ hk, Kd.fresh' (Kd.R_lt (by (with_reducible repeat (first | apply Kd.RA | apply Kd.RN | apply Kd.RD)); exact HO281.out)) k_ hk⟩))
              (case aO => exact (by (with_reducible repeat (first | apply Kd.RA | apply Kd.RN | apply Kd.RD)); exact Kd.RM HO284.out (fun _ hk => ⟨hk.1.1.1.2, ⟨hk.1.1.2, ⟨hk.1.2, hk.2⟩⟩⟩)))
              (case aS => exact (vZ (by repeat (first | (with_reducible first | exact HB.out | apply vA | apply vN | apply vD | refine vS ?_ GE246.out) | exact HB.out))))
              (case aL => have := LMc39.out; omega)
              intro v286 w59 ho hb hg hat
              rw [← Ny285.out] at ho
              have n0_ := Aside0.mk (blk_grown (g := gb246) (o := .cells #[.int .i64 a1_0, .int .i64 a1_1, .string a1_2, .string a1_3, .bool false] 34 (0, 0)) (by (with_reducible repeat (first | refine bN ?_ _ | refine bD ?_ | refine bA ?_ _)); exact BK246.out) hg (Kd.R_ne HO284.out BK246.out (by decide)))
              have n1_ := Aside0.mk (Kd.R_after (ok := (fun k_ => some k_ ≠ (.slice Ao48 t251.length co48 : Value).ownBlock ∧ some k_ ≠ (.slice Ao53 y273.length co53 : Value).ownBlock ∧ some k_ ≠ (.slice Ao57 y279.length co57 : Value).ownBlock)) (by (with_reducible repeat (first | apply Kd.RA | apply Kd.RN | apply Kd.RD)); exact Kd.RM HO249.out (fun _ hk => ⟨⟨hk.1.1.1, ⟨hk.1.1.2, hk.1.2⟩⟩, hk.2⟩)) hg hat)
              have n2_ := Aside0.mk (Kd.R_after (ok := (fun k_ => some k_ ≠ (.slice Ao45 y247.length co45 : Value).ownBlock ∧ some k_ ≠ (.slice Ao53 y273.length co53 : Value).ownBlock ∧ some k_ ≠ (.slice Ao57 y279.length co57 : Value).ownBlock)) (by (with_reducible repeat (first | apply Kd.RA | apply Kd.RN | apply Kd.RD)); exact Kd.RM HO253.out (fun _ hk => ⟨⟨hk.1.1.1, ⟨hk.1.1.2, hk.1.2⟩⟩, hk.2⟩)) hg hat)
              have n3_ := Aside0.mk (Kd.R_after (ok := (fun k_ => some k_ ≠ (.slice Ao45 y247.length co45 : Value).ownBlock ∧ some k_ ≠ (.slice Ao48 t251.length co48 : Value).ownBlock ∧ some k_ ≠ (.slice Ao57 y279.length co57 : Value).ownBlock)) (by (with_reducible repeat (first | apply Kd.RA | apply Kd.RN | apply Kd.RD)); exact Kd.RM HO275.out (fun _ hk => ⟨⟨hk.1.1.1, ⟨hk.1.1.2, hk.1.2⟩⟩, hk.2⟩)) hg hat)
              have n4_ := Aside0.mk (Kd.R_after (ok := (fun k_ => some k_ ≠ (.slice Ao45 y247.length co45 : Value).ownBlock ∧ some k_ ≠ (.slice Ao48 t251.length co48 : Value).ownBlock ∧ some k_ ≠ (.slice Ao53 y273.length co53 : Value).ownBlock)) (by (with_reducible repeat (first | apply Kd.RA | apply Kd.RN | apply Kd.RD)); exact HO281.out) hg hat)
              have n5_ := Aside0.mk (hb)
              have n6_ := Aside0.mk (ho)
              clear BK246
              clear HO249
              clear HO253
              clear HO275
              clear HO281
              clear HB
              clear HO284
              have BK246 := n0_
              have HO249 := n1_
              have HO253 := n2_
              have HO275 := n3_
              have HO281 := n4_
              have HB := n5_
              have HO287 := n6_
              clear n0_ n1_ n2_ n3_ n4_ n5_ n6_
              clear ho hb hg hat
              refine hK.out _ _ ⟨(bC BK246.out 0).trans rfl, (bC BK246.out 1).trans rfl, (bC BK246.out 2).trans rfl, (bC BK246.out 3).trans rfl, (bC BK246.out 4).trans rfl⟩ (fun hHeld => ?_)
              clear hK K
              refine norm_ (a' := ?_) ?_ ?_
              rotate_left
              · show Act.put _ (some 46) _ = _
                simp only [Act.put, List.setIfInBounds_toArray, List.set_cons_zero, List.set_cons_succ, i64_w, i32_w]
                rfl
              refine pure_ (i := 9) (N := some 4) (v := ?_) (a' := ?_) #[true, true, true, true, true, true, true, true, true, true] rfl rfl (any_of HT_.out (by kernel_rfl)) (fun _ _ _ h => h) (Or.inl ⟨by rfl, ?_⟩) ?_ ?_
              rotate_left
              · intro w'
                go_simp
                with_reducible rfl
              rotate_left
              · simp only [Act.put, List.setIfInBounds_toArray, List.set_cons_zero, List.set_cons_succ, i64_w, i32_w]
                rfl
              refine done_ (done_of HT_.out (by kernel_rfl)) ?_
              try go_wp2
              go_ret
              exact ⟨_, by first | rfl | (simp [*, eN, eS] <;> rfl) | (simp [eN, eS]; generalize ByteArray.toList _ = l_; cases l_ <;> rfl), by (with_reducible repeat (first | apply Kd.RA | apply Kd.RN | apply Kd.RD)); exact Kd.RM HO287.out (fun _ hk => trivial), by repeat (first | (with_reducible first | exact HB.out | apply vA | apply vN | apply vD | refine vS ?_ GE246.out) | exact HB.out)⟩
            · rw [if_neg c39] at H
              exact absurd H (by simp)
          · rw [if_neg c37] at H
            exact absurd H (by simp)
        · rw [if_neg c35] at H
          exact absurd H (by simp)
    · replace c5 := Bool.eq_false_iff.mpr c5
      subst c5
      have H1 : (some y247) = some r := by rw [if_neg (show ¬ (false = true) by decide)] at H; exact H
      clear H
      have H := H1
      clear H1
      obtain rfl := Option.some.inj H
      go_enter Try.func38, Try.ntmps38
      go_wp2_with (first | ((with_reducible refine gate_dst (N := 3) rfl ?_); refine box_event ?hg (N := 3) ?hd (cs := #[.int .i64 a1_0, .int .i64 a1_1, .string a1_2, .string a1_3, .bool a1_4]) (t := 34) ?hr ?_; (case hd => rfl); (case hg => rfl); (case hr => first | (go_simp; done) | (go_simp; rfl)); intro gb246 hg w60 hbox hb; have n0_ := Aside0.mk (vT (by repeat (first | (with_reducible first | exact HB.out | apply vA | apply vN | apply vD) | exact HB.out)) hb); have n1_ := Aside0.mk (hbox); have n2_ := Aside0.mk ((by rw [hg]; exact (vZ (by repeat (first | (with_reducible first | exact HB.out | apply vA | apply vN | apply vD) | exact HB.out))) : w.heap.size ≤ gb246)); have n3_ := Aside0.mk ((by rw [hg]; exact (vZ (by repeat (first | (with_reducible first | exact HB.out | apply vA | apply vN | apply vD) | exact HB.out))) : w.heap.size ≤ gb246)); clear HB; have HB := n0_; have BK246 := n1_; have GW246 := n2_; have GE246 := n3_; clear n0_ n1_ n2_ n3_; clear hb hbox hg) | ((with_reducible refine gate_builtin (b := .append) (xs := #[(.const (.slice none 0 0)), .tmp 5]) rfl ?_); at_builtin; refine Kd.R_append_rows (Kd.int .u8) (w0 := w) w.heap.size rfl (.const (.slice none 0 0)) (.tmp 5) 37 5 (.int .u8 0) 1 rfl Try.underlying37 info5 rfl (by decide) (by omega) (.slice none 0 0) ([] : List Int) l0 _ _ _ (fun _ => True) (fun _ => False) rfl rfl ?aO ?aR (fun _ _ h => h) (fun _ h => h.elim) ?aF ?aB ?aS ?aL ?_; (case aR => repeat (first | exact (Kd.C_below HR0.out HB.out) | (with_reducible refine Kd.C_alloc ?_ _) | (with_reducible refine Kd.C_drewN ?_ _) | (with_reducible refine Kd.C_drew ?_))); (case aB => exact (by repeat (first | (with_reducible first | exact HB.out | apply vA | apply vN | apply vD | refine vS ?_ GE246.out) | exact HB.out))); (case aF => exact (fun _ _ => trivial)); (case aO => exact ((Kd.R_nil _ _ _ _ (fun _ => True)))); (case aS => exact (vZ (by repeat (first | (with_reducible first | exact HB.out | apply vA | apply vN | apply vD | refine vS ?_ GE246.out) | exact HB.out)))); (case aL => have := LMc3.out; omega); intro v248 w61 ho hb hg hat; rw [← Ny247.out] at ho; have n0_ := Aside0.mk (blk_grown (g := gb246) (o := .cells #[.int .i64 a1_0, .int .i64 a1_1, .string a1_2, .string a1_3, .bool a1_4] 34 (0, 0)) (by (with_reducible repeat (first | refine bN ?_ _ | refine bD ?_ | refine bA ?_ _)); exact BK246.out) hg (by simp [Value.ownBlock])); have n1_ := Aside0.mk (hb); have n2_ := Aside0.mk (ho); clear BK246; clear HB; have BK246 := n0_; have HB := n1_; have HO249 := n2_; clear n0_ n1_ n2_; clear ho hb hg hat; have hcz62_0 : w61.cell? ⟨gb246, 0, none⟩ = some (.int .i64 a1_0) := (bC BK246.out 0).trans rfl; have hcz62_1 : w61.cell? ⟨gb246, 1, none⟩ = some (.int .i64 a1_1) := (bC BK246.out 1).trans rfl; have hcz62_2 : w61.cell? ⟨gb246, 2, none⟩ = some (.string a1_2) := (bC BK246.out 2).trans rfl; have hcz62_3 : w61.cell? ⟨gb246, 3, none⟩ = some (.string a1_3) := (bC BK246.out 3).trans rfl; have hcz62_4 : w61.cell? ⟨gb246, 4, none⟩ = some (.bool a1_4) := (bC BK246.out 4).trans rfl; have hfz62_0 := bF BK246.out 0; have hfz62_1 := bF BK246.out 1; have hfz62_2 := bF BK246.out 2; have hfz62_3 := bF BK246.out 3; have hfz62_4 := bF BK246.out 4) | ((with_reducible refine gate_callee (f := 16) rfl ?_); refine goesL_ (some 8) rfl rfl Try.func16 (by kernel_rfl) rfl #[.agg #[.int .i64 a1_0, .int .i64 a1_1, .string a1_2, .string a1_3, .bool a1_4]] rfl (by (try simp only [List.map_toArray, List.map_cons, List.map_nil]); first | done | rfl | (simp only [List.length_drop, List.length_take]; rfl)) ?_; (with_reducible refine (cooperageref1_Right.calls a1_0 a1_1 a1_2 a1_3 a1_4 false _ A4.out).mono ?_); rintro e w63 ⟨rfl, hb⟩; refine ⟨_, rfl, ?_⟩; have n0_ := Aside0.mk (Kd.RB (by (with_reducible repeat (first | apply Kd.RA | apply Kd.RN | apply Kd.RD)); exact HO249.out) hb); have n1_ := Aside0.mk (bB (g := gb246) (o := .cells #[.int .i64 a1_0, .int .i64 a1_1, .string a1_2, .string a1_3, .bool a1_4] 34 (0, 0)) (by (with_reducible repeat (first | refine bN ?_ _ | refine bD ?_ | refine bA ?_ _)); exact BK246.out) hb); have n2_ := Aside0.mk (vT (by repeat (first | (with_reducible first | exact HB.out | apply vA | apply vN | apply vD | refine vS ?_ GE246.out) | exact HB.out)) hb); clear HO249; clear BK246; clear HB; have HO249 := n0_; have BK246 := n1_; have HB := n2_; clear n0_ n1_ n2_; (try clear hb); (try clear hb2); (try clear hk); (try clear hi)))
      go_ret
      exact ⟨_, by first | rfl | (simp [*, eN, eS] <;> rfl) | (simp [eN, eS]; generalize ByteArray.toList _ = l_; cases l_ <;> rfl), by (with_reducible repeat (first | apply Kd.RA | apply Kd.RN | apply Kd.RD)); exact HO249.out, by repeat (first | (with_reducible first | exact HB.out | apply vA | apply vN | apply vD | refine vS ?_ GE246.out) | exact HB.out)⟩
  · rw [if_neg c3] at H
    exact absurd H (by simp)

end Go.Proofs.Ytphnolgneojdhaa.V

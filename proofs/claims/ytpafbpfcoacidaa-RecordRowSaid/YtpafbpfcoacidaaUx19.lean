-- printed by a program of this session (a changed copy of the kit's printer)
import Derived.Test.YtpafbpfcoacidaaUx0
import Derived.Test.YtpafbpfcoacidaaUx1
import Derived.Test.YtpafbpfcoacidaaUx3
import Derived.Test.YtpafbpfcoacidaaUx4
import Derived.Test.YtpafbpfcoacidaaUx11
import Derived.Test.YtpafbpfcoacidaaUx12
import Derived.Test.YtpafbpfcoacidaaUx16
import Derived.Test.YtpafbpfcoacidaaUx17
namespace Go.Proofs.Ytpafbpfcoacidaa.U
open Go.RowKit Go.Proofs.YtpafbpfcoacidaaW.PrintWords Go.Proofs.YtpafbpfcoacidaaW.PrintLast Go.Proofs.YtpafbpfcoacidaaW.PrintMore
attribute [local go_sem] max2_int min2_int max_two min_two max_three min_three max_four min_four   -- for this text's walks alone
set_option linter.unusedVariables false
set_option linter.unusedSimpArgs false

attribute [local go_sem high] eqA25
/-! ### cooperagelaw4_RecordRow: function 10 -/
mutual
def cooperagelaw4_RecordRow.j0 : Nat → List (S25) → Int → Int → Bool → Bool → Option (Bool)
  | 0, _, _, _, _, _ => none
  | k + 1, x0, x1, x2, x7, x31 => if x31 = true then (some x7) else (cooperagelaw4_RecordRow.l0 k x0 x1 x2 ([] : List Int) ([] : List (S25)) 0)
def cooperagelaw4_RecordRow.l0 : Nat → List (S25) → Int → Int → List Int → List (S25) → Int → Option (Bool)
  | 0, _, _, _, _, _, _ => none
  | k + 1, x0, x1, x2, x8, x9, x10 => if x10 < (x0.length : Int) then (if 0 ≤ x10 then (if (((rd_T25 x0 x10).f3).size : Int) > 300 then (cooperagelaw4_RecordRow.j2 k x0 x1 x2 x8 x9 x10 true) else (cooperagelaw4_RecordRow.j2 k x0 x1 x2 x8 x9 x10 (decide ((((rd_T25 x0 x10).f2).size : Int) > 200)))) else (none)) else (cooperagelaw4_RecordRow.l1 k x1 x2 x8 x9 0 0)
def cooperagelaw4_RecordRow.j2 : Nat → List (S25) → Int → Int → List Int → List (S25) → Int → Bool → Option (Bool)
  | 0, _, _, _, _, _, _, _ => none
  | k + 1, x0, x1, x2, x8, x9, x10, x54 => if x54 = true then (some true) else (if 0 ≤ x10 then (if x10 < (x0.length : Int) then ((record_Put.f k x8 ((rd_T25 x0 x10).f0) ((rd_T25 x0 x10).f1) ((rd_T25 x0 x10).f2) ((rd_T25 x0 x10).f3) ((rd_T25 x0 x10).f4)).bind fun t339 => ((cooperageref1_Right.f ((rd_T25 x0 x10).f0) ((rd_T25 x0 x10).f1) ((rd_T25 x0 x10).f2) ((rd_T25 x0 x10).f3) ((rd_T25 x0 x10).f4)).bind fun t343 => (if t343 = true then (if x9.length < 2513169434916 then (cooperagelaw4_RecordRow.l0 k x0 x1 x2 t339 (x9 ++ [(⟨(rd_T25 x0 x10).f0, (rd_T25 x0 x10).f1, (rd_T25 x0 x10).f2, (rd_T25 x0 x10).f3, (rd_T25 x0 x10).f4⟩ : S25)]) (wrap64 (x10 + 1))) else (none)) else (cooperagelaw4_RecordRow.l0 k x0 x1 x2 t339 x9 (wrap64 (x10 + 1)))))) else (none)) else (none))
def cooperagelaw4_RecordRow.l1 : Nat → Int → Int → List Int → List (S25) → Int → Int → Option (Bool)
  | 0, _, _, _, _, _, _ => none
  | k + 1, x1, x2, x8, x9, x11, x12 => if x12 < (x9.length : Int) then (if x11 > (x8.length : Int) then (some false) else (if 0 ≤ x11 then (if x11 ≤ (x8.length : Int) then ((record_Get.f k (x8.drop (x11 : Int).toNat)).bind fun bt352 => ((cooperagelaw4_num.f bt352.2.2.2.2.2.2).bind fun t360 => (if t360 = 0 then (if 0 ≤ x12 then (if (!(bt352.1 == ((rd_T25 x9 x12).f0)) || (!(bt352.2.1 == ((rd_T25 x9 x12).f1)) || (!(bt352.2.2.1.toList == (((rd_T25 x9 x12).f2).toList)) || (!(bt352.2.2.2.1.toList == (((rd_T25 x9 x12).f3).toList)) || (!(bt352.2.2.2.2.1 == ((rd_T25 x9 x12).f4))))))) = true then (some false) else (if bt352.2.2.2.2.2.1 < 1 then (some false) else (cooperagelaw4_RecordRow.l1 k x1 x2 x8 x9 (wrap64 (x11 + bt352.2.2.2.2.2.1)) (wrap64 (x12 + 1))))) else (none)) else (some false)))) else (none)) else (none))) else (if (x9.length : Int) = 0 then (cooperagelaw4_RecordRow.j4 k x1 x2 x8 x9 x11 true) else (cooperagelaw4_RecordRow.j4 k x1 x2 x8 x9 x11 (x11 != (x8.length : Int))))
def cooperagelaw4_RecordRow.j4 : Nat → Int → Int → List Int → List (S25) → Int → Bool → Option (Bool)
  | 0, _, _, _, _, _, _ => none
  | k + 1, x1, x2, x8, x9, x11, x117 => if x117 = true then (some (x11 == (x8.length : Int))) else (if 0 < (x9.length : Int) then ((cooperageref1_PutRecord.f k ([] : List Int) ((rd_T25 x9 0).f0) ((rd_T25 x9 0).f1) ((rd_T25 x9 0).f2) ((rd_T25 x9 0).f3) ((rd_T25 x9 0).f4)).bind fun t363 => (if (t363.length : Int) = 0 then (none) else (if 0 ≤ (Int.tmod x1 (t363.length : Int)) then (if (Int.tmod x1 (t363.length : Int)) < (t363.length : Int) then (if 0 ≤ (IntKind.u64.wrap (Go.bits .and .i64 x2 7)) then ((record_Get.f k (t363.set ((Int.tmod x1 (t363.length : Int)) : Int).toNat (Go.bits .xor .u8 (rd t363 (Int.tmod x1 (t363.length : Int))) (shl .u8 1 (IntKind.u64.wrap (Go.bits .and .i64 x2 7)))))).bind fun bt368 => ((cooperagelaw4_num.f bt368.2.2.2.2.2.2).bind fun t376 => (if t376 = 0 then (some (!(bt368.1 == ((rd_T25 x9 0).f0)) || (!(bt368.2.1 == ((rd_T25 x9 0).f1)) || (!(bt368.2.2.1.toList == (((rd_T25 x9 0).f2).toList)) || (!(bt368.2.2.2.1.toList == (((rd_T25 x9 0).f3).toList)) || (!(bt368.2.2.2.2.1 == ((rd_T25 x9 0).f4)))))))) else (some true)))) else (none)) else (none)) else (none)))) else (none))
end
def cooperagelaw4_RecordRow.f (k : Nat) (l0 : List (S25)) (a1 : Int) (a2 : Int) : Option (Bool) := (cooperagelaw4_alive.f k).bind fun t335 => (if t335 = true then (if (l0.length : Int) > 20 then (cooperagelaw4_RecordRow.j0 k l0 a1 a2 t335 true) else (cooperagelaw4_RecordRow.j0 k l0 a1 a2 t335 (decide (a1 < 0)))) else (cooperagelaw4_RecordRow.j0 k l0 a1 a2 t335 true))
theorem cooperagelaw4_RecordRow.mono_l : ∀ k, (∀ y0 y1 y2 y3 y4, LeO (cooperagelaw4_RecordRow.j0 k y0 y1 y2 y3 y4) (cooperagelaw4_RecordRow.j0 (k + 1) y0 y1 y2 y3 y4)) ∧ (∀ y0 y1 y2 y3 y4 y5, LeO (cooperagelaw4_RecordRow.l0 k y0 y1 y2 y3 y4 y5) (cooperagelaw4_RecordRow.l0 (k + 1) y0 y1 y2 y3 y4 y5)) ∧ (∀ y0 y1 y2 y3 y4 y5 y6, LeO (cooperagelaw4_RecordRow.j2 k y0 y1 y2 y3 y4 y5 y6) (cooperagelaw4_RecordRow.j2 (k + 1) y0 y1 y2 y3 y4 y5 y6)) ∧ (∀ y0 y1 y2 y3 y4 y5, LeO (cooperagelaw4_RecordRow.l1 k y0 y1 y2 y3 y4 y5) (cooperagelaw4_RecordRow.l1 (k + 1) y0 y1 y2 y3 y4 y5)) ∧ (∀ y0 y1 y2 y3 y4 y5, LeO (cooperagelaw4_RecordRow.j4 k y0 y1 y2 y3 y4 y5) (cooperagelaw4_RecordRow.j4 (k + 1) y0 y1 y2 y3 y4 y5))
  | 0 => ⟨fun _ _ _ _ _ r h => by simp [cooperagelaw4_RecordRow.j0] at h, fun _ _ _ _ _ _ r h => by simp [cooperagelaw4_RecordRow.l0] at h, fun _ _ _ _ _ _ _ r h => by simp [cooperagelaw4_RecordRow.j2] at h, fun _ _ _ _ _ _ r h => by simp [cooperagelaw4_RecordRow.l1] at h, fun _ _ _ _ _ _ r h => by simp [cooperagelaw4_RecordRow.j4] at h⟩
  | k + 1 => by
    obtain ⟨ih0, ih1, ih2, ih3, ih4⟩ := cooperagelaw4_RecordRow.mono_l k
    refine ⟨?_, ?_, ?_, ?_, ?_⟩
    · intro y0 y1 y2 y3 y4
      unfold cooperagelaw4_RecordRow.j0
      repeat' first
      | (with_reducible exact ih0 _ _ _ _ _)
      | (with_reducible exact ih1 _ _ _ _ _ _)
      | (with_reducible exact ih2 _ _ _ _ _ _ _)
      | (with_reducible exact ih3 _ _ _ _ _ _)
      | (with_reducible exact ih4 _ _ _ _ _ _)
      | (with_reducible exact cooperagelaw4_alive.mono _)
      | (with_reducible exact cooperageref1_PutRecord.mono _ _ _ _ _ _ _)
      | (with_reducible exact record_Get.mono _ _)
      | (with_reducible exact record_Put.mono _ _ _ _ _ _ _)
      | (with_reducible exact LeO.refl _)
      | (with_reducible exact LeO.none _)
      | (with_reducible refine LeO.ite ?_ ?_)
      | (with_reducible refine LeO.bind ?_ (fun _ => ?_))
      | exact ih0 _ _ _ _ _
      | exact ih1 _ _ _ _ _ _
      | exact ih2 _ _ _ _ _ _ _
      | exact ih3 _ _ _ _ _ _
      | exact ih4 _ _ _ _ _ _
      | exact cooperagelaw4_alive.mono _
      | exact cooperageref1_PutRecord.mono _ _ _ _ _ _ _
      | exact record_Get.mono _ _
      | exact record_Put.mono _ _ _ _ _ _ _
      | exact LeO.none _
      | refine LeO.ite ?_ ?_
      | refine LeO.bind ?_ (fun _ => ?_)
    · intro y0 y1 y2 y3 y4 y5
      unfold cooperagelaw4_RecordRow.l0
      repeat' first
      | (with_reducible exact ih0 _ _ _ _ _)
      | (with_reducible exact ih1 _ _ _ _ _ _)
      | (with_reducible exact ih2 _ _ _ _ _ _ _)
      | (with_reducible exact ih3 _ _ _ _ _ _)
      | (with_reducible exact ih4 _ _ _ _ _ _)
      | (with_reducible exact cooperagelaw4_alive.mono _)
      | (with_reducible exact cooperageref1_PutRecord.mono _ _ _ _ _ _ _)
      | (with_reducible exact record_Get.mono _ _)
      | (with_reducible exact record_Put.mono _ _ _ _ _ _ _)
      | (with_reducible exact LeO.refl _)
      | (with_reducible exact LeO.none _)
      | (with_reducible refine LeO.ite ?_ ?_)
      | (with_reducible refine LeO.bind ?_ (fun _ => ?_))
      | exact ih0 _ _ _ _ _
      | exact ih1 _ _ _ _ _ _
      | exact ih2 _ _ _ _ _ _ _
      | exact ih3 _ _ _ _ _ _
      | exact ih4 _ _ _ _ _ _
      | exact cooperagelaw4_alive.mono _
      | exact cooperageref1_PutRecord.mono _ _ _ _ _ _ _
      | exact record_Get.mono _ _
      | exact record_Put.mono _ _ _ _ _ _ _
      | exact LeO.none _
      | refine LeO.ite ?_ ?_
      | refine LeO.bind ?_ (fun _ => ?_)
    · intro y0 y1 y2 y3 y4 y5 y6
      unfold cooperagelaw4_RecordRow.j2
      repeat' first
      | (with_reducible exact ih0 _ _ _ _ _)
      | (with_reducible exact ih1 _ _ _ _ _ _)
      | (with_reducible exact ih2 _ _ _ _ _ _ _)
      | (with_reducible exact ih3 _ _ _ _ _ _)
      | (with_reducible exact ih4 _ _ _ _ _ _)
      | (with_reducible exact cooperagelaw4_alive.mono _)
      | (with_reducible exact cooperageref1_PutRecord.mono _ _ _ _ _ _ _)
      | (with_reducible exact record_Get.mono _ _)
      | (with_reducible exact record_Put.mono _ _ _ _ _ _ _)
      | (with_reducible exact LeO.refl _)
      | (with_reducible exact LeO.none _)
      | (with_reducible refine LeO.ite ?_ ?_)
      | (with_reducible refine LeO.bind ?_ (fun _ => ?_))
      | exact ih0 _ _ _ _ _
      | exact ih1 _ _ _ _ _ _
      | exact ih2 _ _ _ _ _ _ _
      | exact ih3 _ _ _ _ _ _
      | exact ih4 _ _ _ _ _ _
      | exact cooperagelaw4_alive.mono _
      | exact cooperageref1_PutRecord.mono _ _ _ _ _ _ _
      | exact record_Get.mono _ _
      | exact record_Put.mono _ _ _ _ _ _ _
      | exact LeO.none _
      | refine LeO.ite ?_ ?_
      | refine LeO.bind ?_ (fun _ => ?_)
    · intro y0 y1 y2 y3 y4 y5
      unfold cooperagelaw4_RecordRow.l1
      repeat' first
      | (with_reducible exact ih0 _ _ _ _ _)
      | (with_reducible exact ih1 _ _ _ _ _ _)
      | (with_reducible exact ih2 _ _ _ _ _ _ _)
      | (with_reducible exact ih3 _ _ _ _ _ _)
      | (with_reducible exact ih4 _ _ _ _ _ _)
      | (with_reducible exact cooperagelaw4_alive.mono _)
      | (with_reducible exact cooperageref1_PutRecord.mono _ _ _ _ _ _ _)
      | (with_reducible exact record_Get.mono _ _)
      | (with_reducible exact record_Put.mono _ _ _ _ _ _ _)
      | (with_reducible exact LeO.refl _)
      | (with_reducible exact LeO.none _)
      | (with_reducible refine LeO.ite ?_ ?_)
      | (with_reducible refine LeO.bind ?_ (fun _ => ?_))
      | exact ih0 _ _ _ _ _
      | exact ih1 _ _ _ _ _ _
      | exact ih2 _ _ _ _ _ _ _
      | exact ih3 _ _ _ _ _ _
      | exact ih4 _ _ _ _ _ _
      | exact cooperagelaw4_alive.mono _
      | exact cooperageref1_PutRecord.mono _ _ _ _ _ _ _
      | exact record_Get.mono _ _
      | exact record_Put.mono _ _ _ _ _ _ _
      | exact LeO.none _
      | refine LeO.ite ?_ ?_
      | refine LeO.bind ?_ (fun _ => ?_)
    · intro y0 y1 y2 y3 y4 y5
      unfold cooperagelaw4_RecordRow.j4
      repeat' first
      | (with_reducible exact ih0 _ _ _ _ _)
      | (with_reducible exact ih1 _ _ _ _ _ _)
      | (with_reducible exact ih2 _ _ _ _ _ _ _)
      | (with_reducible exact ih3 _ _ _ _ _ _)
      | (with_reducible exact ih4 _ _ _ _ _ _)
      | (with_reducible exact cooperagelaw4_alive.mono _)
      | (with_reducible exact cooperageref1_PutRecord.mono _ _ _ _ _ _ _)
      | (with_reducible exact record_Get.mono _ _)
      | (with_reducible exact record_Put.mono _ _ _ _ _ _ _)
      | (with_reducible exact LeO.refl _)
      | (with_reducible exact LeO.none _)
      | (with_reducible refine LeO.ite ?_ ?_)
      | (with_reducible refine LeO.bind ?_ (fun _ => ?_))
      | exact ih0 _ _ _ _ _
      | exact ih1 _ _ _ _ _ _
      | exact ih2 _ _ _ _ _ _ _
      | exact ih3 _ _ _ _ _ _
      | exact ih4 _ _ _ _ _ _
      | exact cooperagelaw4_alive.mono _
      | exact cooperageref1_PutRecord.mono _ _ _ _ _ _ _
      | exact record_Get.mono _ _
      | exact record_Put.mono _ _ _ _ _ _ _
      | exact LeO.none _
      | refine LeO.ite ?_ ?_
      | refine LeO.bind ?_ (fun _ => ?_)
theorem cooperagelaw4_RecordRow.mono : ∀ a0 a1 a2 k, LeO (cooperagelaw4_RecordRow.f k a0 a1 a2) (cooperagelaw4_RecordRow.f (k + 1) a0 a1 a2) := by
  intro a0 a1 a2 k
  obtain ⟨ih0, ih1, ih2, ih3, ih4⟩ := cooperagelaw4_RecordRow.mono_l k
  unfold cooperagelaw4_RecordRow.f
  repeat' first
      | (with_reducible exact ih0 _ _ _ _ _)
      | (with_reducible exact ih1 _ _ _ _ _ _)
      | (with_reducible exact ih2 _ _ _ _ _ _ _)
      | (with_reducible exact ih3 _ _ _ _ _ _)
      | (with_reducible exact ih4 _ _ _ _ _ _)
      | (with_reducible exact cooperagelaw4_alive.mono _)
      | (with_reducible exact cooperageref1_PutRecord.mono _ _ _ _ _ _ _)
      | (with_reducible exact record_Get.mono _ _)
      | (with_reducible exact record_Put.mono _ _ _ _ _ _ _)
      | (with_reducible exact LeO.refl _)
      | (with_reducible exact LeO.none _)
      | (with_reducible refine LeO.ite ?_ ?_)
      | (with_reducible refine LeO.bind ?_ (fun _ => ?_))
      | exact ih0 _ _ _ _ _
      | exact ih1 _ _ _ _ _ _
      | exact ih2 _ _ _ _ _ _ _
      | exact ih3 _ _ _ _ _ _
      | exact ih4 _ _ _ _ _ _
      | exact cooperagelaw4_alive.mono _
      | exact cooperageref1_PutRecord.mono _ _ _ _ _ _ _
      | exact record_Get.mono _ _
      | exact record_Put.mono _ _ _ _ _ _ _
      | exact LeO.none _
      | refine LeO.ite ?_ ?_
      | refine LeO.bind ?_ (fun _ => ?_)
def cooperagelaw4_RecordRow.T21 : Bool × List (List Nat × List Nat) := (true, [([], []), ([0], [0]), ([1], [1]), ([2, 1], [2]), ([3], [3]), ([3], [3]), ([3], [3]), ([5, 6, 3], [3, 5, 6]), ([7, 3], [3, 7]), ([4, 8, 3], [3, 4, 8]), ([3, 9], [3, 9]), ([10, 3], [10]), ([11], [11]), ([12, 11], [11, 12]), ([11, 13], [11, 13])])
def cooperagelaw4_RecordRow.B21 : List Nat := [0, 1, 3, 7, 15, 15, 15, 111, 239, 511, 1023, 2047, 4095, 8191, 16383]
theorem cooperagelaw4_RecordRow.tab21 : rtab .any (opsOf Try.f10 21) = cooperagelaw4_RecordRow.T21 := by kernel_rfl
theorem cooperagelaw4_RecordRow.bits21 : waitsOk cooperagelaw4_RecordRow.T21.2 cooperagelaw4_RecordRow.B21 = true := by kernel_rfl
def cooperagelaw4_RecordRow.T27 : Bool × List (List Nat × List Nat) := (true, [([], []), ([], []), ([], []), ([2], [2]), ([1, 3], [1, 3]), ([], []), ([], []), ([], []), ([7], [7]), ([6, 8], [6, 8]), ([5, 9], [5, 9]), ([10], [10]), ([], []), ([12], [12]), ([13], [13]), ([14], [14]), ([11, 15], [11, 15]), ([0, 4, 0, 1, 2, 3, 4, 5, 6, 7, 8, 9, 10, 11, 12, 13, 14, 15, 16], [0, 4]), ([17, 16, 0, 1, 2, 3, 4, 5, 6, 7, 8, 9, 10, 11, 12, 13, 14, 15, 16], [16, 17])])
def cooperagelaw4_RecordRow.B27 : List Nat := [0, 0, 0, 4, 14, 0, 0, 0, 128, 448, 992, 2016, 0, 4096, 12288, 28672, 65504, 131071, 262143]
theorem cooperagelaw4_RecordRow.tab27 : rtab .any (opsOf Try.f10 27) = cooperagelaw4_RecordRow.T27 := by kernel_rfl
theorem cooperagelaw4_RecordRow.bits27 : waitsOk cooperagelaw4_RecordRow.T27.2 cooperagelaw4_RecordRow.B27 = true := by kernel_rfl
def cooperagelaw4_RecordRow.T29 : Bool × List (List Nat × List Nat) := (true, [([], []), ([0], [0]), ([1], [1]), ([2, 1], [2]), ([3], [3]), ([3], [3]), ([5, 3], [3, 5]), ([6, 3], [3, 6]), ([4, 7, 3], [3, 4, 7]), ([3, 8], [3, 8]), ([9, 3, 0, 1, 2, 3, 4, 5, 6, 7, 8, 9], [9])])
def cooperagelaw4_RecordRow.B29 : List Nat := [0, 1, 3, 7, 15, 15, 47, 111, 255, 511, 1023]
theorem cooperagelaw4_RecordRow.tab29 : rtab .any (opsOf Try.f10 29) = cooperagelaw4_RecordRow.T29 := by kernel_rfl
theorem cooperagelaw4_RecordRow.bits29 : waitsOk cooperagelaw4_RecordRow.T29.2 cooperagelaw4_RecordRow.B29 = true := by kernel_rfl
set_option maxHeartbeats 8000000 in
set_option maxRecDepth 100000 in
theorem cooperagelaw4_RecordRow.calls (k : Nat) (A0 : Option Addr) (c0 : Nat) (l0 : List (S25)) (a1 : Int) (a2 : Int) (r : Bool) (w : World) (hr0 : Kd.C k25 w A0 l0.length l0) (hc0 : l0.length ≤ c0) (h : cooperagelaw4_RecordRow.f k l0 a1 a2 = some r) :
    Calls Try.prog 10 #[.slice A0 l0.length c0, .int .i64 a1, .int .i64 a2] w fun e w' => e = .returned (.bool r) ∧ Below w.heap.size w w' := by
  have hu25 := Try.underlying25
  have HR0 := Aside0.mk hr0
  have HC0 := Aside0.mk hc0
  clear hr0 hc0
  have HB := Aside0.mk (Below.refl w.heap.size w)
  have H : ((cooperagelaw4_alive.f k).bind fun t335 => (if t335 = true then (if (l0.length : Int) > 20 then (cooperagelaw4_RecordRow.j0 k l0 a1 a2 t335 true) else (cooperagelaw4_RecordRow.j0 k l0 a1 a2 t335 (decide (a1 < 0)))) else (cooperagelaw4_RecordRow.j0 k l0 a1 a2 t335 true))) = some r := h
  clear h
  replace H := Option.bind_eq_some_iff.mp H
  obtain ⟨t335, A40, H⟩ := H
  replace H : (if t335 = true then (if (l0.length : Int) > 20 then (cooperagelaw4_RecordRow.j0 k l0 a1 a2 t335 true) else (cooperagelaw4_RecordRow.j0 k l0 a1 a2 t335 (decide (a1 < 0)))) else (cooperagelaw4_RecordRow.j0 k l0 a1 a2 t335 true)) = some r := H
  have A4 := Aside0.mk A40
  clear A40
  have HC5 := Aside0.mk H
  clear H
  go_enter Try.func10, Try.ntmps10
  go_upto_region 2 with (first | ((with_reducible refine gate_callee (f := 12) rfl ?_); refine goesL_ (some 20) rfl rfl Try.func12 (by kernel_rfl) rfl #[] rfl (by (try simp only [List.map_toArray, List.map_cons, List.map_nil]); first | done | rfl | (simp only [List.length_drop, List.length_take]; rfl)) ?_; (with_reducible refine (cooperagelaw4_alive.calls k  t335 _ A4.out).mono ?_); rintro e w6 ⟨rfl, hb⟩; refine ⟨_, rfl, ?_⟩; have n0_ := Aside0.mk (below_step (by repeat (first | (with_reducible first | exact HB.out | apply below_alloc | apply pw_below_drewN | apply below_drew1) | exact HB.out)) hb); clear HB; have HB := n0_; clear n0_; (try clear hb); (try clear hb2); (try clear hk); (try clear hi)))
  (try simp only [Act.put, List.setIfInBounds_toArray, List.set_cons_zero, List.set_cons_succ])
  go_cut [31] (fun v31 wc => ∃ (kq : Nat) (x31_4 : Bool), v31 = .bool x31_4 ∧ Aside0 (cooperagelaw4_RecordRow.j0 kq l0 a1 a2 t335 x31_4 = some r) ∧ Aside0 (kq ≤ k) ∧ Aside0 (Below w.heap.size w wc))
  case first =>
    have H := HC5.out
    clear HC5
    by_cases c7 : t335 = true
    · subst c7
      have H1 : (if (l0.length : Int) > 20 then (cooperagelaw4_RecordRow.j0 k l0 a1 a2 true true) else (cooperagelaw4_RecordRow.j0 k l0 a1 a2 true (decide (a1 < 0)))) = some r := by rw [if_pos rfl] at H; exact H
      clear H
      have H := H1
      clear H1
      by_cases c8 : (l0.length : Int) > 20
      · rw [if_pos c8] at H
        have c8b0 : decide (20 < (l0.length : Int)) = true := decide_eq_true c8
        have c8b1 : decide (20 < l0.length) = true := decide_eq_true (by omega)
        clear c8
        (first | rw [c8b0] | (simp only [i64_w, i32_w]; rw [c8b0]) | skip)
        have H' := Aside0.mk H
        clear H
        go_wp2
        go_meet
        case rel => exact ⟨_, (true), (by first | rfl | (simp; done) | (simp [*]; done)), H', ⟨by first | omega | exact Nat.le_refl _⟩, ⟨by repeat (first | (with_reducible first | exact HB.out | apply below_alloc | apply pw_below_drewN | apply below_drew1) | exact HB.out)⟩⟩
      · rw [if_neg c8] at H
        have c8b0 : decide (20 < (l0.length : Int)) = false := decide_eq_false c8
        have c8b1 : decide (20 < l0.length) = false := decide_eq_false (by omega)
        clear c8
        (first | rw [c8b0] | (simp only [i64_w, i32_w]; rw [c8b0]) | skip)
        have H' := Aside0.mk H
        clear H
        go_wp2
        go_meet
        case rel => exact ⟨_, (decide (a1 < 0)), (by first | rfl | (simp; done) | (simp [*]; done)), H', ⟨by first | omega | exact Nat.le_refl _⟩, ⟨by repeat (first | (with_reducible first | exact HB.out | apply below_alloc | apply pw_below_drewN | apply below_drew1) | exact HB.out)⟩⟩
    · replace c7 := Bool.eq_false_iff.mpr c7
      subst c7
      have H1 : (cooperagelaw4_RecordRow.j0 k l0 a1 a2 false true) = some r := by rw [if_neg (show ¬ (false = true) by decide)] at H; exact H
      clear H
      have H := H1
      clear H1
      have H' := Aside0.mk H
      clear H
      go_wp2
      go_meet
      case rel => exact ⟨_, (true), (by first | rfl | (simp; done) | (simp [*]; done)), H', ⟨by first | omega | exact Nat.le_refl _⟩, ⟨by repeat (first | (with_reducible first | exact HB.out | apply below_alloc | apply pw_below_drewN | apply below_drew1) | exact HB.out)⟩⟩
  case rest =>
    clear HC5
    try clear c1
    try clear p2
    try clear c7
    try clear c8
    try clear c8b0
    try clear c8b1
    obtain ⟨kq, x31_4, rfl, HA, HJ4, HB⟩ := hcut
    cases kq with
    | zero => exact absurd HA.out (by simp [cooperagelaw4_RecordRow.j0])
    | succ kj4 =>
      have H := HA.out
      clear HA
      simp only [cooperagelaw4_RecordRow.j0] at H
      by_cases c9 : x31_4 = true
      · subst c9
        have H1 : (some t335) = some r := by rw [if_pos rfl] at H; exact H
        clear H
        have H := H1
        clear H1
        obtain rfl := Option.some.inj H
        go_wp2
        go_ret
        exact ⟨by first | rfl | (simp [errW_none, errW_some] <;> rfl) | (simp [*, errW_none, errW_some] <;> rfl) | (simp [errW_none, errW_some]; generalize ByteArray.toList _ = l_; cases l_ <;> rfl), by repeat (first | (with_reducible first | exact HB.out | apply below_alloc | apply pw_below_drewN | apply below_drew1) | exact HB.out)⟩
      · replace c9 := Bool.eq_false_iff.mpr c9
        subst c9
        have H1 : (cooperagelaw4_RecordRow.l0 kj4 l0 a1 a2 ([] : List Int) ([] : List (S25)) 0) = some r := by rw [if_neg (show ¬ (false = true) by decide)] at H; exact H
        clear H
        have H := H1
        clear H1
        have H' := Aside0.mk H
        clear H
        go_wp2
        go_loopg [8, 9, 10] kj4 (fun kq v8 v9 v10 w' => ∃ (x8_2 : List Int) (x9_2 : List (S25)) (x10_2 : Int), v10 = .int .i64 x10_2 ∧ Aside0 (cooperagelaw4_RecordRow.l0 kq l0 a1 a2 x8_2 x9_2 x10_2 = some r) ∧ Aside0 (kq ≤ kj4) ∧ Aside0 (Kd.R (Kd.int .u8) 5 w' w.heap.size (fun _ => True) v8 x8_2) ∧ Aside0 (Kd.R k25 25 w' w.heap.size (fun _ => True) v9 x9_2) ∧ Aside0 (Below w.heap.size w w'))
        case atStart => exact ⟨(([] : List Int)), (([] : List (S25))), (0), (by first | rfl | (simp; done) | (simp [*]; done)), H', ⟨Nat.le_refl _⟩, ⟨by first | exact Kd.R_nil _ _ _ _ _ | exact Kd.N_nil _ _ _ _ _ | exact Kd.V_nil _ _ _ _ _ | exact Kd.Q_nil _ _ _ _ _ | exact Kd.S_nil _ _ _ _ _⟩, ⟨by first | exact Kd.R_nil _ _ _ _ _ | exact Kd.N_nil _ _ _ _ _ | exact Kd.V_nil _ _ _ _ _ | exact Kd.Q_nil _ _ _ _ _ | exact Kd.S_nil _ _ _ _ _⟩, ⟨by repeat (first | (with_reducible first | exact HB.out | apply below_alloc | apply pw_below_drewN | apply below_drew1) | exact HB.out)⟩⟩
        case round =>
          clear H'
          try clear c1
          try clear p2
          try clear c7
          try clear c8
          try clear c8b0
          try clear c8b1
          try clear c9
          try clear p2
          obtain ⟨x8_2, x9_2, x10_2, rfl, HA, HK2, HO_8, HO_9, HB⟩ := hrel
          cases gk with
          | zero => exact absurd HA.out (by simp [cooperagelaw4_RecordRow.l0])
          | succ k2 =>
            have H := HA.out
            clear HA
            simp only [cooperagelaw4_RecordRow.l0] at H
            by_cases c10 : x10_2 < (l0.length : Int)
            · rw [if_pos c10] at H
              have c10b0 : decide (x10_2 < (l0.length : Int)) = true := decide_eq_true c10
              clear c10
              have HC11 := Aside0.mk H
              clear H
              go_upto_region 9 with (fail)
              go_cut [54] (fun v54 wc => ∃ (kq : Nat) (x54_10 : Bool), v54 = .bool x54_10 ∧ Aside0 (cooperagelaw4_RecordRow.j2 kq l0 a1 a2 x8_2 x9_2 x10_2 x54_10 = some r) ∧ Aside0 (kq ≤ k2) ∧ Aside0 (Kd.R (Kd.int .u8) 5 wc w.heap.size (fun _ => True) u8 x8_2) ∧ Aside0 (Kd.R k25 25 wc w.heap.size (fun _ => True) u9 x9_2) ∧ Aside0 (Below w.heap.size w wc))
              case first =>
                have H := HC11.out
                clear HC11
                by_cases c12 : 0 ≤ x10_2
                · rw [if_pos c12] at H
                  have c12b0 : decide (0 ≤ x10_2) = true := decide_eq_true c12
                  clear c12
                  (first | rw [c12b0] | (simp only [i64_w, i32_w]; rw [c12b0]) | skip)
                  by_cases c13 : (((rd_T25 l0 x10_2).f3).size : Int) > 300
                  · rw [if_pos c13] at H
                    have c13b0 : decide (300 < (((rd_T25 l0 x10_2).f3).size : Int)) = true := decide_eq_true c13
                    have c13b1 : decide (300 < ((rd_T25 l0 x10_2).f3).size) = true := decide_eq_true (by omega)
                    clear c13
                    have H' := Aside0.mk H
                    clear H
                    have p336 : 0 ≤ (x10_2 : Int) := of_decide_eq_true (by first | (with_reducible assumption) | assumption)
                    have q336 : x10_2 < (l0.length : Int) := of_decide_eq_true (by first | (with_reducible assumption) | assumption)
                    obtain ⟨ad336, e336, hx336_0, hx336_1, hx336_2, hx336_3, hx336_4⟩ := at_T25 HR0.out x10_2 p336 q336
                    cases e336
                    replace hx336_0 := (HB.out.cell (World.block_lt_of_cell? w _ hx336_0)).trans hx336_0
                    replace hx336_1 := (HB.out.cell (World.block_lt_of_cell? w _ hx336_1)).trans hx336_1
                    replace hx336_2 := (HB.out.cell (World.block_lt_of_cell? w _ hx336_2)).trans hx336_2
                    replace hx336_3 := (HB.out.cell (World.block_lt_of_cell? w _ hx336_3)).trans hx336_3
                    replace hx336_4 := (HB.out.cell (World.block_lt_of_cell? w _ hx336_4)).trans hx336_4
                    replace p336 := eq_true p336
                    replace q336 := eq_true q336
                    go_wp2
                    go_meet
                    case rel => exact ⟨_, (true), (by first | rfl | (simp; done) | (simp [*]; done)), H', ⟨by have := HJ4.out; have := HK2.out; first | omega | exact Nat.le_refl _⟩, ⟨by (with_reducible repeat (first | apply Kd.R_alloc | apply Kd.R_drewN | apply Kd.R_drew)); exact HO_8.out⟩, ⟨by (with_reducible repeat (first | apply Kd.R_alloc | apply Kd.R_drewN | apply Kd.R_drew)); exact HO_9.out⟩, ⟨by repeat (first | (with_reducible first | exact HB.out | apply below_alloc | apply pw_below_drewN | apply below_drew1) | exact HB.out)⟩⟩
                  · rw [if_neg c13] at H
                    have c13b0 : decide (300 < (((rd_T25 l0 x10_2).f3).size : Int)) = false := decide_eq_false c13
                    have c13b1 : decide (300 < ((rd_T25 l0 x10_2).f3).size) = false := decide_eq_false (by omega)
                    clear c13
                    have H' := Aside0.mk H
                    clear H
                    have p336 : 0 ≤ (x10_2 : Int) := of_decide_eq_true (by first | (with_reducible assumption) | assumption)
                    have q336 : x10_2 < (l0.length : Int) := of_decide_eq_true (by first | (with_reducible assumption) | assumption)
                    obtain ⟨ad336, e336, hx336_0, hx336_1, hx336_2, hx336_3, hx336_4⟩ := at_T25 HR0.out x10_2 p336 q336
                    cases e336
                    replace hx336_0 := (HB.out.cell (World.block_lt_of_cell? w _ hx336_0)).trans hx336_0
                    replace hx336_1 := (HB.out.cell (World.block_lt_of_cell? w _ hx336_1)).trans hx336_1
                    replace hx336_2 := (HB.out.cell (World.block_lt_of_cell? w _ hx336_2)).trans hx336_2
                    replace hx336_3 := (HB.out.cell (World.block_lt_of_cell? w _ hx336_3)).trans hx336_3
                    replace hx336_4 := (HB.out.cell (World.block_lt_of_cell? w _ hx336_4)).trans hx336_4
                    replace p336 := eq_true p336
                    replace q336 := eq_true q336
                    have p337 : 0 ≤ (x10_2 : Int) := of_decide_eq_true (by first | (with_reducible assumption) | assumption)
                    have q337 : x10_2 < (l0.length : Int) := of_decide_eq_true (by first | (with_reducible assumption) | assumption)
                    obtain ⟨ad337, e337, hx337_0, hx337_1, hx337_2, hx337_3, hx337_4⟩ := at_T25 HR0.out x10_2 p337 q337
                    obtain rfl : ad336 = ad337 := (by injection e337)
                    replace hx337_0 := (HB.out.cell (World.block_lt_of_cell? w _ hx337_0)).trans hx337_0
                    replace hx337_1 := (HB.out.cell (World.block_lt_of_cell? w _ hx337_1)).trans hx337_1
                    replace hx337_2 := (HB.out.cell (World.block_lt_of_cell? w _ hx337_2)).trans hx337_2
                    replace hx337_3 := (HB.out.cell (World.block_lt_of_cell? w _ hx337_3)).trans hx337_3
                    replace hx337_4 := (HB.out.cell (World.block_lt_of_cell? w _ hx337_4)).trans hx337_4
                    replace p337 := eq_true p337
                    replace q337 := eq_true q337
                    go_wp2
                    go_meet
                    case rel => exact ⟨_, (decide ((((rd_T25 l0 x10_2).f2).size : Int) > 200)), (by first | rfl | (simp; done) | (simp [*]; done)), H', ⟨by have := HJ4.out; have := HK2.out; first | omega | exact Nat.le_refl _⟩, ⟨by (with_reducible repeat (first | apply Kd.R_alloc | apply Kd.R_drewN | apply Kd.R_drew)); exact HO_8.out⟩, ⟨by (with_reducible repeat (first | apply Kd.R_alloc | apply Kd.R_drewN | apply Kd.R_drew)); exact HO_9.out⟩, ⟨by repeat (first | (with_reducible first | exact HB.out | apply below_alloc | apply pw_below_drewN | apply below_drew1) | exact HB.out)⟩⟩
                · rw [if_neg c12] at H
                  exact absurd H (by simp)
              case rest =>
                clear HC11
                try clear c1
                try clear p2
                try clear p3
                try clear q3
                try clear hx3
                try clear c7
                try clear c8
                try clear c8b0
                try clear c8b1
                try clear c9
                try clear c10
                try clear c10b0
                try clear c12
                try clear c12b0
                try clear c13
                try clear c13b0
                try clear c13b1
                try clear hx336_0
                try clear hx336_1
                try clear hx336_2
                try clear hx336_3
                try clear hx336_4
                try clear hx337_0
                try clear hx337_1
                try clear hx337_2
                try clear hx337_3
                try clear hx337_4
                try clear p2
                try clear p336
                try clear p337
                try clear q336
                try clear q337
                obtain ⟨kq, x54_10, rfl, HA, HJ10, HO_8, HO_9, HB⟩ := hcut
                cases kq with
                | zero => exact absurd HA.out (by simp [cooperagelaw4_RecordRow.j2])
                | succ kj10 =>
                  have H := HA.out
                  clear HA
                  simp only [cooperagelaw4_RecordRow.j2] at H
                  by_cases c14 : x54_10 = true
                  · subst c14
                    have H1 : (some true) = some r := by rw [if_pos rfl] at H; exact H
                    clear H
                    have H := H1
                    clear H1
                    obtain rfl := Option.some.inj H
                    go_wp2
                    go_ret
                    exact ⟨by first | rfl | (simp [errW_none, errW_some] <;> rfl) | (simp [*, errW_none, errW_some] <;> rfl) | (simp [errW_none, errW_some]; generalize ByteArray.toList _ = l_; cases l_ <;> rfl), by repeat (first | (with_reducible first | exact HB.out | apply below_alloc | apply pw_below_drewN | apply below_drew1) | exact HB.out)⟩
                  · replace c14 := Bool.eq_false_iff.mpr c14
                    subst c14
                    have H1 : (if 0 ≤ x10_2 then (if x10_2 < (l0.length : Int) then ((record_Put.f kj10 x8_2 ((rd_T25 l0 x10_2).f0) ((rd_T25 l0 x10_2).f1) ((rd_T25 l0 x10_2).f2) ((rd_T25 l0 x10_2).f3) ((rd_T25 l0 x10_2).f4)).bind fun t339 => ((cooperageref1_Right.f ((rd_T25 l0 x10_2).f0) ((rd_T25 l0 x10_2).f1) ((rd_T25 l0 x10_2).f2) ((rd_T25 l0 x10_2).f3) ((rd_T25 l0 x10_2).f4)).bind fun t343 => (if t343 = true then (if x9_2.length < 2513169434916 then (cooperagelaw4_RecordRow.l0 kj10 l0 a1 a2 t339 (x9_2 ++ [(⟨(rd_T25 l0 x10_2).f0, (rd_T25 l0 x10_2).f1, (rd_T25 l0 x10_2).f2, (rd_T25 l0 x10_2).f3, (rd_T25 l0 x10_2).f4⟩ : S25)]) (wrap64 (x10_2 + 1))) else (none)) else (cooperagelaw4_RecordRow.l0 kj10 l0 a1 a2 t339 x9_2 (wrap64 (x10_2 + 1)))))) else (none)) else (none)) = some r := by rw [if_neg (show ¬ (false = true) by decide)] at H; exact H
                    clear H
                    have H := H1
                    clear H1
                    by_cases c15 : 0 ≤ x10_2
                    · rw [if_pos c15] at H
                      have c15b0 : decide (0 ≤ x10_2) = true := decide_eq_true c15
                      clear c15
                      by_cases c16 : x10_2 < (l0.length : Int)
                      · rw [if_pos c16] at H
                        have c16b0 : decide (x10_2 < (l0.length : Int)) = true := decide_eq_true c16
                        clear c16
                        replace H := Option.bind_eq_some_iff.mp H
                        obtain ⟨t339, A170, H⟩ := H
                        replace H : ((cooperageref1_Right.f ((rd_T25 l0 x10_2).f0) ((rd_T25 l0 x10_2).f1) ((rd_T25 l0 x10_2).f2) ((rd_T25 l0 x10_2).f3) ((rd_T25 l0 x10_2).f4)).bind fun t343 => (if t343 = true then (if x9_2.length < 2513169434916 then (cooperagelaw4_RecordRow.l0 kj10 l0 a1 a2 t339 (x9_2 ++ [(⟨(rd_T25 l0 x10_2).f0, (rd_T25 l0 x10_2).f1, (rd_T25 l0 x10_2).f2, (rd_T25 l0 x10_2).f3, (rd_T25 l0 x10_2).f4⟩ : S25)]) (wrap64 (x10_2 + 1))) else (none)) else (cooperagelaw4_RecordRow.l0 kj10 l0 a1 a2 t339 x9_2 (wrap64 (x10_2 + 1))))) = some r := H
                        have A17 := Aside0.mk A170
                        clear A170
                        replace H := Option.bind_eq_some_iff.mp H
                        obtain ⟨t343, A180, H⟩ := H
                        replace H : (if t343 = true then (if x9_2.length < 2513169434916 then (cooperagelaw4_RecordRow.l0 kj10 l0 a1 a2 t339 (x9_2 ++ [(⟨(rd_T25 l0 x10_2).f0, (rd_T25 l0 x10_2).f1, (rd_T25 l0 x10_2).f2, (rd_T25 l0 x10_2).f3, (rd_T25 l0 x10_2).f4⟩ : S25)]) (wrap64 (x10_2 + 1))) else (none)) else (cooperagelaw4_RecordRow.l0 kj10 l0 a1 a2 t339 x9_2 (wrap64 (x10_2 + 1)))) = some r := H
                        have A18 := Aside0.mk A180
                        clear A180
                        by_cases c19 : t343 = true
                        · subst c19
                          have H1 : (if x9_2.length < 2513169434916 then (cooperagelaw4_RecordRow.l0 kj10 l0 a1 a2 t339 (x9_2 ++ [(⟨(rd_T25 l0 x10_2).f0, (rd_T25 l0 x10_2).f1, (rd_T25 l0 x10_2).f2, (rd_T25 l0 x10_2).f3, (rd_T25 l0 x10_2).f4⟩ : S25)]) (wrap64 (x10_2 + 1))) else (none)) = some r := by rw [if_pos rfl] at H; exact H
                          clear H
                          have H := H1
                          clear H1
                          by_cases c20 : x9_2.length < 2513169434916
                          · rw [if_pos c20] at H
                            have LMc20 := Aside0.mk c20
                            clear c20
                            obtain ⟨y345, hy345⟩ : ∃ y_ : List (S25), y_ = (x9_2 ++ [(⟨(rd_T25 l0 x10_2).f0, (rd_T25 l0 x10_2).f1, (rd_T25 l0 x10_2).f2, (rd_T25 l0 x10_2).f3, (rd_T25 l0 x10_2).f4⟩ : S25)]) := ⟨_, rfl⟩
                            replace H : (cooperagelaw4_RecordRow.l0 kj10 l0 a1 a2 t339 y345 (wrap64 (x10_2 + 1))) = some r := by first | (rw [hy345]; with_reducible exact H) | (have H2_ := (Option.bind_some _ _).symm.trans H; rw [hy345]; with_reducible exact H2_) | (have H2_ := (Option.bind_some _ _).symm.trans H; with_reducible exact H2_) | with_reducible exact H | (rw [hy345]; exact H) | exact H
                            have Ny345 := Aside0.mk hy345
                            clear hy345
                            have H' := Aside0.mk H
                            clear H
                            have p338 : 0 ≤ (x10_2 : Int) := of_decide_eq_true (by first | (with_reducible assumption) | assumption)
                            have q338 : x10_2 < (l0.length : Int) := of_decide_eq_true (by first | (with_reducible assumption) | assumption)
                            obtain ⟨ad338, e338, hx338_0, hx338_1, hx338_2, hx338_3, hx338_4⟩ := at_T25 HR0.out x10_2 p338 q338
                            cases e338
                            replace hx338_0 := (HB.out.cell (World.block_lt_of_cell? w _ hx338_0)).trans hx338_0
                            replace hx338_1 := (HB.out.cell (World.block_lt_of_cell? w _ hx338_1)).trans hx338_1
                            replace hx338_2 := (HB.out.cell (World.block_lt_of_cell? w _ hx338_2)).trans hx338_2
                            replace hx338_3 := (HB.out.cell (World.block_lt_of_cell? w _ hx338_3)).trans hx338_3
                            replace hx338_4 := (HB.out.cell (World.block_lt_of_cell? w _ hx338_4)).trans hx338_4
                            replace p338 := eq_true p338
                            replace q338 := eq_true q338
                            obtain ⟨Ao21, co21, eo21⟩ := Kd.R_slice HO_8.out
                            subst eo21
                            go_wp2_with (first | ((with_reducible refine gate_callee (f := 30) rfl ?_); refine goesL_ (some 60) rfl rfl Try.func30 (by kernel_rfl) rfl #[.slice Ao21 x8_2.length co21, .agg #[.int .i64 ((rd_T25 l0 x10_2).f0), .int .i64 ((rd_T25 l0 x10_2).f1), .string ((rd_T25 l0 x10_2).f2), .string ((rd_T25 l0 x10_2).f3), .bool ((rd_T25 l0 x10_2).f4)]] rfl (by (try simp only [List.map_toArray, List.map_cons, List.map_nil]); first | done | rfl | (simp only [List.length_drop, List.length_take]; rfl)) ?_; (with_reducible refine (record_Put.calls kj10 _ _ x8_2 ((rd_T25 l0 x10_2).f0) ((rd_T25 l0 x10_2).f1) ((rd_T25 l0 x10_2).f2) ((rd_T25 l0 x10_2).f3) ((rd_T25 l0 x10_2).f4) t339 _ ?side1 ?side2 A17.out).mono ?_); (case side1 => repeat (first | exact (Kd.R_reads' HO_8.out).2.2 | (with_reducible refine Kd.C_alloc ?_ _) | (with_reducible refine Kd.C_drewN ?_ _) | (with_reducible refine Kd.C_drew ?_))); (case side2 => exact (Kd.R_reads' HO_8.out).2.1); rintro e w22 ⟨v340, rfl, ho0, hb⟩; refine ⟨_, rfl, ?_⟩; have n0_ := Aside0.mk (Kd.R_elder' (by (with_reducible repeat (first | apply Kd.R_alloc | apply Kd.R_drewN | apply Kd.R_drew)); exact HO_8.out) (Kd.R_base ho0) hb); have n1_ := Aside0.mk (Kd.R_below (by (with_reducible repeat (first | apply Kd.R_alloc | apply Kd.R_drewN | apply Kd.R_drew)); exact HO_9.out) hb); have n2_ := Aside0.mk (Kd.R_lower (Kd.R_new' ho0 (Kd.R_lt (by (with_reducible repeat (first | apply Kd.R_alloc | apply Kd.R_drewN | apply Kd.R_drew)); exact HO_8.out))) (below_size (by repeat (first | (with_reducible first | exact HB.out | apply below_alloc | apply pw_below_drewN | apply below_drew1) | exact HB.out)))); have n3_ := Aside0.mk (below_step (by repeat (first | (with_reducible first | exact HB.out | apply below_alloc | apply pw_below_drewN | apply below_drew1) | exact HB.out)) hb); clear HO_8; clear HO_9; clear HB; have HO_8 := n0_; have HO_9 := n1_; have HO341 := n2_; have HB := n3_; clear n0_ n1_ n2_ n3_; (try clear hb); (try clear hb2); (try clear hk); (try clear hi); (try clear ho0); have p342 : 0 ≤ (x10_2 : Int) := of_decide_eq_true (by first | (with_reducible assumption) | assumption); have q342 : x10_2 < (l0.length : Int) := of_decide_eq_true (by first | (with_reducible assumption) | assumption); obtain ⟨ad342, e342, hx342_0, hx342_1, hx342_2, hx342_3, hx342_4⟩ := at_T25 HR0.out x10_2 p342 q342; obtain rfl : ad338 = ad342 := (by injection e342); replace hx342_0 := (HB.out.cell (World.block_lt_of_cell? w _ hx342_0)).trans hx342_0; replace hx342_1 := (HB.out.cell (World.block_lt_of_cell? w _ hx342_1)).trans hx342_1; replace hx342_2 := (HB.out.cell (World.block_lt_of_cell? w _ hx342_2)).trans hx342_2; replace hx342_3 := (HB.out.cell (World.block_lt_of_cell? w _ hx342_3)).trans hx342_3; replace hx342_4 := (HB.out.cell (World.block_lt_of_cell? w _ hx342_4)).trans hx342_4; replace p342 := eq_true p342; replace q342 := eq_true q342) | ((with_reducible refine gate_callee (f := 28) rfl ?_); refine goesL_ (some 65) rfl rfl Try.func28 (by kernel_rfl) rfl #[.agg #[.int .i64 ((rd_T25 l0 x10_2).f0), .int .i64 ((rd_T25 l0 x10_2).f1), .string ((rd_T25 l0 x10_2).f2), .string ((rd_T25 l0 x10_2).f3), .bool ((rd_T25 l0 x10_2).f4)]] rfl (by (try simp only [List.map_toArray, List.map_cons, List.map_nil]); first | done | rfl | (simp only [List.length_drop, List.length_take]; rfl)) ?_; (with_reducible refine (cooperageref1_Right.calls ((rd_T25 l0 x10_2).f0) ((rd_T25 l0 x10_2).f1) ((rd_T25 l0 x10_2).f2) ((rd_T25 l0 x10_2).f3) ((rd_T25 l0 x10_2).f4) true _ A18.out).mono ?_); rintro e w23 ⟨rfl, hb⟩; refine ⟨_, rfl, ?_⟩; have n0_ := Aside0.mk (Kd.R_below (by (with_reducible repeat (first | apply Kd.R_alloc | apply Kd.R_drewN | apply Kd.R_drew)); exact HO_8.out) hb); have n1_ := Aside0.mk (Kd.R_below (by (with_reducible repeat (first | apply Kd.R_alloc | apply Kd.R_drewN | apply Kd.R_drew)); exact HO_9.out) hb); have n2_ := Aside0.mk (Kd.R_below (by (with_reducible repeat (first | apply Kd.R_alloc | apply Kd.R_drewN | apply Kd.R_drew)); exact HO341.out) hb); have n3_ := Aside0.mk (below_step (by repeat (first | (with_reducible first | exact HB.out | apply below_alloc | apply pw_below_drewN | apply below_drew1) | exact HB.out)) hb); clear HO_8; clear HO_9; clear HO341; clear HB; have HO_8 := n0_; have HO_9 := n1_; have HO341 := n2_; have HB := n3_; clear n0_ n1_ n2_ n3_; (try clear hb); (try clear hb2); (try clear hk); (try clear hi); have p344 : 0 ≤ (x10_2 : Int) := of_decide_eq_true (by first | (with_reducible assumption) | assumption); have q344 : x10_2 < (l0.length : Int) := of_decide_eq_true (by first | (with_reducible assumption) | assumption); obtain ⟨ad344, e344, hx344_0, hx344_1, hx344_2, hx344_3, hx344_4⟩ := at_T25 HR0.out x10_2 p344 q344; obtain rfl : ad338 = ad344 := (by injection e344); replace hx344_0 := (HB.out.cell (World.block_lt_of_cell? w _ hx344_0)).trans hx344_0; replace hx344_1 := (HB.out.cell (World.block_lt_of_cell? w _ hx344_1)).trans hx344_1; replace hx344_2 := (HB.out.cell (World.block_lt_of_cell? w _ hx344_2)).trans hx344_2; replace hx344_3 := (HB.out.cell (World.block_lt_of_cell? w _ hx344_3)).trans hx344_3; replace hx344_4 := (HB.out.cell (World.block_lt_of_cell? w _ hx344_4)).trans hx344_4; replace p344 := eq_true p344; replace q344 := eq_true q344) | ((with_reducible refine gate_builtin (b := .append) (xs := #[(.tmp 66), .tmp 71]) rfl ?_); (try (refine gate_guard (by rfl) ?_; dsimp only)); at_builtin; refine Kd.R_append k25 (w0 := w) w.heap.size rfl (.tmp 66) (.tmp 71) 53 25 (.agg #[(.int .i64 0), (.int .i64 0), (.string ⟨#[]⟩), (.string ⟨#[]⟩), (.bool false)]) 56 rfl Try.underlying53 info25 rfl (by decide) (by omega) u9 x9_2 (⟨(rd_T25 l0 x10_2).f0, (rd_T25 l0 x10_2).f1, (rd_T25 l0 x10_2).f2, (rd_T25 l0 x10_2).f3, (rd_T25 l0 x10_2).f4⟩ : S25) [.int .i64 ((rd_T25 l0 x10_2).f0), .int .i64 ((rd_T25 l0 x10_2).f1), .string ((rd_T25 l0 x10_2).f2), .string ((rd_T25 l0 x10_2).f3), .bool ((rd_T25 l0 x10_2).f4)] (fun _ => True) (fun _ => False) rfl rfl ?aP (fun _ hk => hk.elim) ?aF ?aO ?aB ?aS ?aL ?_; (case aP => exact k25_mkM _ _ _ (⟨(rd_T25 l0 x10_2).f0, (rd_T25 l0 x10_2).f1, (rd_T25 l0 x10_2).f2, (rd_T25 l0 x10_2).f3, (rd_T25 l0 x10_2).f4⟩ : S25)); (case aB => exact (by repeat (first | (with_reducible first | exact HB.out | apply below_alloc | apply pw_below_drewN | apply below_drew1) | exact HB.out))); (case aF => exact (fun _ _ => trivial)); (case aO => exact (by (with_reducible repeat (first | apply Kd.R_alloc | apply Kd.R_drewN | apply Kd.R_drew)); exact HO_9.out)); (case aS => exact (below_size (by repeat (first | (with_reducible first | exact HB.out | apply below_alloc | apply pw_below_drewN | apply below_drew1) | exact HB.out)))); (case aL => have := LMc20.out; omega); intro v346 w24 ho hb hg hat; rw [← Ny345.out] at ho; have n0_ := Aside0.mk (Kd.R_over' (by (with_reducible repeat (first | apply Kd.R_alloc | apply Kd.R_drewN | apply Kd.R_drew)); exact HO_8.out) (Kd.R_typed (by (with_reducible repeat (first | apply Kd.R_alloc | apply Kd.R_drewN | apply Kd.R_drew)); exact HO_9.out)) (by decide) hg); have n1_ := Aside0.mk (Kd.R_over' (by (with_reducible repeat (first | apply Kd.R_alloc | apply Kd.R_drewN | apply Kd.R_drew)); exact HO341.out) (Kd.R_typed (by (with_reducible repeat (first | apply Kd.R_alloc | apply Kd.R_drewN | apply Kd.R_drew)); exact HO_9.out)) (by decide) hg); have n2_ := Aside0.mk (hb); have n3_ := Aside0.mk (ho); clear HO_8; clear HO341; clear HB; clear HO_9; have HO_8 := n0_; have HO341 := n1_; have HB := n2_; have HO347 := n3_; clear n0_ n1_ n2_ n3_; clear ho hb hg hat))
                            go_roundg kj10
                            case measure => have := HJ4.out; have := HK2.out; have := HJ10.out; omega
                            case rel => exact ⟨(t339), (y345), (wrap64 (x10_2 + 1)), (by first | rfl | (simp; done) | (simp [*]; done)), H', ⟨by have := HJ4.out; have := HK2.out; have := HJ10.out; omega⟩, ⟨by (with_reducible repeat (first | apply Kd.R_alloc | apply Kd.R_drewN | apply Kd.R_drew)); exact Kd.R_mono HO341.out (fun _ hk => trivial)⟩, ⟨by (with_reducible repeat (first | apply Kd.R_alloc | apply Kd.R_drewN | apply Kd.R_drew)); exact HO347.out⟩, ⟨by repeat (first | (with_reducible first | exact HB.out | apply below_alloc | apply pw_below_drewN | apply below_drew1) | exact HB.out)⟩⟩
                          · rw [if_neg c20] at H
                            exact absurd H (by simp)
                        · replace c19 := Bool.eq_false_iff.mpr c19
                          subst c19
                          have H1 : (cooperagelaw4_RecordRow.l0 kj10 l0 a1 a2 t339 x9_2 (wrap64 (x10_2 + 1))) = some r := by rw [if_neg (show ¬ (false = true) by decide)] at H; exact H
                          clear H
                          have H := H1
                          clear H1
                          have H' := Aside0.mk H
                          clear H
                          have p338 : 0 ≤ (x10_2 : Int) := of_decide_eq_true (by first | (with_reducible assumption) | assumption)
                          have q338 : x10_2 < (l0.length : Int) := of_decide_eq_true (by first | (with_reducible assumption) | assumption)
                          obtain ⟨ad338, e338, hx338_0, hx338_1, hx338_2, hx338_3, hx338_4⟩ := at_T25 HR0.out x10_2 p338 q338
                          cases e338
                          replace hx338_0 := (HB.out.cell (World.block_lt_of_cell? w _ hx338_0)).trans hx338_0
                          replace hx338_1 := (HB.out.cell (World.block_lt_of_cell? w _ hx338_1)).trans hx338_1
                          replace hx338_2 := (HB.out.cell (World.block_lt_of_cell? w _ hx338_2)).trans hx338_2
                          replace hx338_3 := (HB.out.cell (World.block_lt_of_cell? w _ hx338_3)).trans hx338_3
                          replace hx338_4 := (HB.out.cell (World.block_lt_of_cell? w _ hx338_4)).trans hx338_4
                          replace p338 := eq_true p338
                          replace q338 := eq_true q338
                          obtain ⟨Ao25, co25, eo25⟩ := Kd.R_slice HO_8.out
                          subst eo25
                          go_wp2_with (first | ((with_reducible refine gate_callee (f := 30) rfl ?_); refine goesL_ (some 60) rfl rfl Try.func30 (by kernel_rfl) rfl #[.slice Ao25 x8_2.length co25, .agg #[.int .i64 ((rd_T25 l0 x10_2).f0), .int .i64 ((rd_T25 l0 x10_2).f1), .string ((rd_T25 l0 x10_2).f2), .string ((rd_T25 l0 x10_2).f3), .bool ((rd_T25 l0 x10_2).f4)]] rfl (by (try simp only [List.map_toArray, List.map_cons, List.map_nil]); first | done | rfl | (simp only [List.length_drop, List.length_take]; rfl)) ?_; (with_reducible refine (record_Put.calls kj10 _ _ x8_2 ((rd_T25 l0 x10_2).f0) ((rd_T25 l0 x10_2).f1) ((rd_T25 l0 x10_2).f2) ((rd_T25 l0 x10_2).f3) ((rd_T25 l0 x10_2).f4) t339 _ ?side1 ?side2 A17.out).mono ?_); (case side1 => repeat (first | exact (Kd.R_reads' HO_8.out).2.2 | (with_reducible refine Kd.C_alloc ?_ _) | (with_reducible refine Kd.C_drewN ?_ _) | (with_reducible refine Kd.C_drew ?_))); (case side2 => exact (Kd.R_reads' HO_8.out).2.1); rintro e w26 ⟨v340, rfl, ho0, hb⟩; refine ⟨_, rfl, ?_⟩; have n0_ := Aside0.mk (Kd.R_elder' (by (with_reducible repeat (first | apply Kd.R_alloc | apply Kd.R_drewN | apply Kd.R_drew)); exact HO_8.out) (Kd.R_base ho0) hb); have n1_ := Aside0.mk (Kd.R_below (by (with_reducible repeat (first | apply Kd.R_alloc | apply Kd.R_drewN | apply Kd.R_drew)); exact HO_9.out) hb); have n2_ := Aside0.mk (Kd.R_lower (Kd.R_new' ho0 (Kd.R_lt (by (with_reducible repeat (first | apply Kd.R_alloc | apply Kd.R_drewN | apply Kd.R_drew)); exact HO_8.out))) (below_size (by repeat (first | (with_reducible first | exact HB.out | apply below_alloc | apply pw_below_drewN | apply below_drew1) | exact HB.out)))); have n3_ := Aside0.mk (below_step (by repeat (first | (with_reducible first | exact HB.out | apply below_alloc | apply pw_below_drewN | apply below_drew1) | exact HB.out)) hb); clear HO_8; clear HO_9; clear HB; have HO_8 := n0_; have HO_9 := n1_; have HO341 := n2_; have HB := n3_; clear n0_ n1_ n2_ n3_; (try clear hb); (try clear hb2); (try clear hk); (try clear hi); (try clear ho0); have p342 : 0 ≤ (x10_2 : Int) := of_decide_eq_true (by first | (with_reducible assumption) | assumption); have q342 : x10_2 < (l0.length : Int) := of_decide_eq_true (by first | (with_reducible assumption) | assumption); obtain ⟨ad342, e342, hx342_0, hx342_1, hx342_2, hx342_3, hx342_4⟩ := at_T25 HR0.out x10_2 p342 q342; obtain rfl : ad338 = ad342 := (by injection e342); replace hx342_0 := (HB.out.cell (World.block_lt_of_cell? w _ hx342_0)).trans hx342_0; replace hx342_1 := (HB.out.cell (World.block_lt_of_cell? w _ hx342_1)).trans hx342_1; replace hx342_2 := (HB.out.cell (World.block_lt_of_cell? w _ hx342_2)).trans hx342_2; replace hx342_3 := (HB.out.cell (World.block_lt_of_cell? w _ hx342_3)).trans hx342_3; replace hx342_4 := (HB.out.cell (World.block_lt_of_cell? w _ hx342_4)).trans hx342_4; replace p342 := eq_true p342; replace q342 := eq_true q342) | ((with_reducible refine gate_callee (f := 28) rfl ?_); refine goesL_ (some 65) rfl rfl Try.func28 (by kernel_rfl) rfl #[.agg #[.int .i64 ((rd_T25 l0 x10_2).f0), .int .i64 ((rd_T25 l0 x10_2).f1), .string ((rd_T25 l0 x10_2).f2), .string ((rd_T25 l0 x10_2).f3), .bool ((rd_T25 l0 x10_2).f4)]] rfl (by (try simp only [List.map_toArray, List.map_cons, List.map_nil]); first | done | rfl | (simp only [List.length_drop, List.length_take]; rfl)) ?_; (with_reducible refine (cooperageref1_Right.calls ((rd_T25 l0 x10_2).f0) ((rd_T25 l0 x10_2).f1) ((rd_T25 l0 x10_2).f2) ((rd_T25 l0 x10_2).f3) ((rd_T25 l0 x10_2).f4) false _ A18.out).mono ?_); rintro e w27 ⟨rfl, hb⟩; refine ⟨_, rfl, ?_⟩; have n0_ := Aside0.mk (Kd.R_below (by (with_reducible repeat (first | apply Kd.R_alloc | apply Kd.R_drewN | apply Kd.R_drew)); exact HO_8.out) hb); have n1_ := Aside0.mk (Kd.R_below (by (with_reducible repeat (first | apply Kd.R_alloc | apply Kd.R_drewN | apply Kd.R_drew)); exact HO_9.out) hb); have n2_ := Aside0.mk (Kd.R_below (by (with_reducible repeat (first | apply Kd.R_alloc | apply Kd.R_drewN | apply Kd.R_drew)); exact HO341.out) hb); have n3_ := Aside0.mk (below_step (by repeat (first | (with_reducible first | exact HB.out | apply below_alloc | apply pw_below_drewN | apply below_drew1) | exact HB.out)) hb); clear HO_8; clear HO_9; clear HO341; clear HB; have HO_8 := n0_; have HO_9 := n1_; have HO341 := n2_; have HB := n3_; clear n0_ n1_ n2_ n3_; (try clear hb); (try clear hb2); (try clear hk); (try clear hi)))
                          go_roundg kj10
                          case measure => have := HJ4.out; have := HK2.out; have := HJ10.out; omega
                          case rel => exact ⟨(t339), (x9_2), (wrap64 (x10_2 + 1)), (by first | rfl | (simp; done) | (simp [*]; done)), H', ⟨by have := HJ4.out; have := HK2.out; have := HJ10.out; omega⟩, ⟨by (with_reducible repeat (first | apply Kd.R_alloc | apply Kd.R_drewN | apply Kd.R_drew)); exact Kd.R_mono HO341.out (fun _ hk => trivial)⟩, ⟨by (with_reducible repeat (first | apply Kd.R_alloc | apply Kd.R_drewN | apply Kd.R_drew)); exact HO_9.out⟩, ⟨by repeat (first | (with_reducible first | exact HB.out | apply below_alloc | apply pw_below_drewN | apply below_drew1) | exact HB.out)⟩⟩
                      · rw [if_neg c16] at H
                        exact absurd H (by simp)
                    · rw [if_neg c15] at H
                      exact absurd H (by simp)
            · rw [if_neg c10] at H
              have c10b0 : decide (x10_2 < (l0.length : Int)) = false := decide_eq_false c10
              clear c10
              have H' := Aside0.mk H
              clear H
              go_wp2
              go_loopg [11, 12] k2 (fun kq v11 v12 w' => ∃ (x11_3 : Int) (x12_3 : Int), v11 = .int .i64 x11_3 ∧ v12 = .int .i64 x12_3 ∧ Aside0 (cooperagelaw4_RecordRow.l1 kq a1 a2 x8_2 x9_2 x11_3 x12_3 = some r) ∧ Aside0 (kq ≤ k2) ∧ Aside0 (Kd.R (Kd.int .u8) 5 w' w.heap.size (fun _ => True) u8 x8_2) ∧ Aside0 (Kd.R k25 25 w' w.heap.size (fun _ => True) u9 x9_2) ∧ Aside0 (Below w.heap.size w w'))
              case atStart => exact ⟨(0), (0), (by first | rfl | (simp; done) | (simp [*]; done)), (by first | rfl | (simp; done) | (simp [*]; done)), H', ⟨Nat.le_refl _⟩, ⟨by (with_reducible repeat (first | apply Kd.R_alloc | apply Kd.R_drewN | apply Kd.R_drew)); exact HO_8.out⟩, ⟨by (with_reducible repeat (first | apply Kd.R_alloc | apply Kd.R_drewN | apply Kd.R_drew)); exact HO_9.out⟩, ⟨by repeat (first | (with_reducible first | exact HB.out | apply below_alloc | apply pw_below_drewN | apply below_drew1) | exact HB.out)⟩⟩
              case round =>
                clear H'
                try clear c1
                try clear c2
                try clear p2
                try clear c3
                try clear p3
                try clear q3
                try clear hx3
                try clear p6
                try clear c7
                try clear c8
                try clear c8b0
                try clear c8b1
                try clear c9
                try clear c10
                try clear c10b0
                try clear c12
                try clear c12b0
                try clear c13
                try clear c13b0
                try clear c13b1
                try clear c14
                try clear c15
                try clear c15b0
                try clear c16
                try clear c16b0
                try clear c19
                try clear c20
                try clear hx336_0
                try clear hx336_1
                try clear hx336_2
                try clear hx336_3
                try clear hx336_4
                try clear hx337_0
                try clear hx337_1
                try clear hx337_2
                try clear hx337_3
                try clear hx337_4
                try clear hx338_0
                try clear hx338_1
                try clear hx338_2
                try clear hx338_3
                try clear hx338_4
                try clear hx342_0
                try clear hx342_1
                try clear hx342_2
                try clear hx342_3
                try clear hx342_4
                try clear hx344_0
                try clear hx344_1
                try clear hx344_2
                try clear hx344_3
                try clear hx344_4
                try clear p2
                try clear p3
                try clear p336
                try clear p337
                try clear p338
                try clear p342
                try clear p344
                try clear q3
                try clear q336
                try clear q337
                try clear q338
                try clear q342
                try clear q344
                obtain ⟨x11_3, x12_3, rfl, rfl, HA, HK3, HO_8, HO_9, HB⟩ := hrel
                cases gk with
                | zero => exact absurd HA.out (by simp [cooperagelaw4_RecordRow.l1])
                | succ k3 =>
                  have H := HA.out
                  clear HA
                  simp only [cooperagelaw4_RecordRow.l1] at H
                  by_cases c28 : x12_3 < (x9_2.length : Int)
                  · rw [if_pos c28] at H
                    have c28b0 : decide (x12_3 < (x9_2.length : Int)) = true := decide_eq_true c28
                    clear c28
                    by_cases c29 : x11_3 > (x8_2.length : Int)
                    · rw [if_pos c29] at H
                      have c29b0 : decide ((x8_2.length : Int) < x11_3) = true := decide_eq_true c29
                      clear c29
                      obtain rfl := Option.some.inj H
                      obtain ⟨Ao30, co30, eo30⟩ := Kd.R_slice HO_9.out
                      subst eo30
                      obtain ⟨Ao31, co31, eo31⟩ := Kd.R_slice HO_8.out
                      subst eo31
                      go_wp2
                      go_ret
                      exact ⟨by first | rfl | (simp [errW_none, errW_some] <;> rfl) | (simp [*, errW_none, errW_some] <;> rfl) | (simp [errW_none, errW_some]; generalize ByteArray.toList _ = l_; cases l_ <;> rfl), by repeat (first | (with_reducible first | exact HB.out | apply below_alloc | apply pw_below_drewN | apply below_drew1) | exact HB.out)⟩
                    · rw [if_neg c29] at H
                      have c29b0 : decide ((x8_2.length : Int) < x11_3) = false := decide_eq_false c29
                      clear c29
                      by_cases c32 : 0 ≤ x11_3
                      · rw [if_pos c32] at H
                        have c32b0 := eq_true c32
                        have c32b1 : decide (0 ≤ x11_3) = true := decide_eq_true c32
                        clear c32
                        by_cases c33 : x11_3 ≤ (x8_2.length : Int)
                        · rw [if_pos c33] at H
                          have c33b0 := eq_true c33
                          have c33b1 : decide (x11_3 ≤ (x8_2.length : Int)) = true := decide_eq_true c33
                          clear c33
                          obtain ⟨y348, hy348⟩ : ∃ y_ : List Int, y_ = (x8_2.drop (x11_3 : Int).toNat) := ⟨_, rfl⟩
                          replace H : ((record_Get.f k3 y348).bind fun bt352 => ((cooperagelaw4_num.f bt352.2.2.2.2.2.2).bind fun t360 => (if t360 = 0 then (if 0 ≤ x12_3 then (if (!(bt352.1 == ((rd_T25 x9_2 x12_3).f0)) || (!(bt352.2.1 == ((rd_T25 x9_2 x12_3).f1)) || (!(bt352.2.2.1.toList == (((rd_T25 x9_2 x12_3).f2).toList)) || (!(bt352.2.2.2.1.toList == (((rd_T25 x9_2 x12_3).f3).toList)) || (!(bt352.2.2.2.2.1 == ((rd_T25 x9_2 x12_3).f4))))))) = true then (some false) else (if bt352.2.2.2.2.2.1 < 1 then (some false) else (cooperagelaw4_RecordRow.l1 k3 a1 a2 x8_2 x9_2 (wrap64 (x11_3 + bt352.2.2.2.2.2.1)) (wrap64 (x12_3 + 1))))) else (none)) else (some false)))) = some r := by first | (rw [hy348]; with_reducible exact H) | (have H2_ := (Option.bind_some _ _).symm.trans H; rw [hy348]; with_reducible exact H2_) | (have H2_ := (Option.bind_some _ _).symm.trans H; with_reducible exact H2_) | with_reducible exact H | (rw [hy348]; exact H) | exact H
                          have Ny348 := Aside0.mk hy348
                          clear hy348
                          replace H := Option.bind_eq_some_iff.mp H
                          obtain ⟨⟨t352, t353, t354, t355, t356, t357, t358⟩, A340, H⟩ := H
                          replace H : ((cooperagelaw4_num.f t358).bind fun t360 => (if t360 = 0 then (if 0 ≤ x12_3 then (if (!(t352 == ((rd_T25 x9_2 x12_3).f0)) || (!(t353 == ((rd_T25 x9_2 x12_3).f1)) || (!(t354.toList == (((rd_T25 x9_2 x12_3).f2).toList)) || (!(t355.toList == (((rd_T25 x9_2 x12_3).f3).toList)) || (!(t356 == ((rd_T25 x9_2 x12_3).f4))))))) = true then (some false) else (if t357 < 1 then (some false) else (cooperagelaw4_RecordRow.l1 k3 a1 a2 x8_2 x9_2 (wrap64 (x11_3 + t357)) (wrap64 (x12_3 + 1))))) else (none)) else (some false))) = some r := H
                          have A34 := Aside0.mk A340
                          clear A340
                          replace H := Option.bind_eq_some_iff.mp H
                          obtain ⟨t360, A350, H⟩ := H
                          replace H : (if t360 = 0 then (if 0 ≤ x12_3 then (if (!(t352 == ((rd_T25 x9_2 x12_3).f0)) || (!(t353 == ((rd_T25 x9_2 x12_3).f1)) || (!(t354.toList == (((rd_T25 x9_2 x12_3).f2).toList)) || (!(t355.toList == (((rd_T25 x9_2 x12_3).f3).toList)) || (!(t356 == ((rd_T25 x9_2 x12_3).f4))))))) = true then (some false) else (if t357 < 1 then (some false) else (cooperagelaw4_RecordRow.l1 k3 a1 a2 x8_2 x9_2 (wrap64 (x11_3 + t357)) (wrap64 (x12_3 + 1))))) else (none)) else (some false)) = some r := H
                          have A35 := Aside0.mk A350
                          clear A350
                          by_cases c36 : t360 = 0
                          · rw [if_pos c36] at H
                            have c36b0 : (t360 == 0) = true := beq_iff_eq.mpr c36
                            have c36b1 : (t360 != 0) = false := bne_eq_false_iff_eq.mpr c36
                            clear c36
                            by_cases c37 : 0 ≤ x12_3
                            · rw [if_pos c37] at H
                              have c37b0 : decide (0 ≤ x12_3) = true := decide_eq_true c37
                              clear c37
                              by_cases c38 : (!(t352 == ((rd_T25 x9_2 x12_3).f0)) || (!(t353 == ((rd_T25 x9_2 x12_3).f1)) || (!(t354.toList == (((rd_T25 x9_2 x12_3).f2).toList)) || (!(t355.toList == (((rd_T25 x9_2 x12_3).f3).toList)) || (!(t356 == ((rd_T25 x9_2 x12_3).f4))))))) = true
                              · rw [if_pos c38] at H
                                have c38b0 : (!(t352 == ((rd_T25 x9_2 x12_3).f0)) || (!(t353 == ((rd_T25 x9_2 x12_3).f1)) || (!(t354.toList == (((rd_T25 x9_2 x12_3).f2).toList)) || (!(t355.toList == (((rd_T25 x9_2 x12_3).f3).toList)) || (!(t356 == ((rd_T25 x9_2 x12_3).f4))))))) = true := c38
                                clear c38
                                obtain rfl := Option.some.inj H
                                obtain ⟨Ao39, co39, eo39⟩ := Kd.R_slice HO_9.out
                                subst eo39
                                obtain ⟨Ao40, co40, eo40⟩ := Kd.R_slice HO_8.out
                                subst eo40
                                have q41 : (x11_3 : Int) ≤ ((x8_2.length : Int) : Int) := of_decide_eq_true (by first | (with_reducible assumption) | assumption)
                                obtain ⟨i041, hi041, _, hsz41, _⟩ := info_parts info5
                                have hroom41 : x8_2.length ≤ co40 := (Kd.R_reads' HO_8.out).2.1
                                have hC41 : Kd.C (Kd.int .u8) _ Ao40 x8_2.length x8_2 := (Kd.R_reads' HO_8.out).2.2
                                have q041 : (0 : Int) ≤ (x11_3 : Int) := of_decide_eq_true (by first | (with_reducible assumption) | assumption)
                                have hcut41 := cut_from (P := Try.prog) 30 5 .i64 Try.underlying30 hi041 1 hsz41 Ao40 x8_2.length co40 x11_3 q041 q41
                                have hr41 := Kd.C_drop (m := (x11_3 : Int).toNat) (c := co40) hC41 (by omega) hroom41
                                obtain ⟨A41, hA41⟩ : ∃ A1, A1 = (if co40 = (x11_3 : Int).toNat then Ao40 else (Ao40 : Option Addr).map (·.add ((x11_3 : Int).toNat * 1))) := ⟨_, rfl⟩
                                obtain ⟨c41, hc41⟩ : ∃ c1, c1 = co40 - (x11_3 : Int).toNat := ⟨_, rfl⟩
                                have hy41 : y348.length = x8_2.length - (x11_3 : Int).toNat := (by rw [Ny348.out, List.length_drop] <;> omega)
                                rw [show (x8_2).drop (x11_3 : Int).toNat = y348 from Ny348.out.symm] at hr41
                                replace hr41 : Kd.C (Kd.int .u8) _ A41 y348.length y348 := (by rw [hA41]; exact hr41)
                                rw [← hy41, ← hA41, ← hc41] at hcut41
                                have HR351 := Aside0.mk hr41
                                have HC351 := Aside0.mk (show y348.length ≤ c41 from by rw [hy41, hc41]; exact Nat.sub_le_sub_right hroom41 _)
                                clear hr41 hC41 hroom41 hi041 hsz41 hc41
                                have KY41 := Aside0.mk hy41
                                have KA41 := Aside0.mk hA41
                                clear hy41 hA41
                                have KL41 := Aside0.mk (show (x11_3 : Int).toNat ≤ x8_2.length from by omega)
                                replace q41 := eq_true q41
                                try go_wp2_with (first | ((with_reducible refine gate_callee (f := 25) rfl ?_); refine goesL_ (some 87) rfl rfl Try.func25 (by kernel_rfl) rfl #[.slice A41 y348.length c41] rfl (by (try simp only [List.map_toArray, List.map_cons, List.map_nil]); first | done | rfl | (simp only [List.length_drop, List.length_take]; rfl)) ?_; (with_reducible refine (record_Get.calls k3 _ _ y348 t352 t353 t354 t355 t356 t357 t358 _ ?side1 ?side2 A34.out).mono ?_); (case side1 => repeat (first | exact (by repeat (first | (with_reducible exact HR351.out) | (with_reducible refine Kd.C_alloc ?_ _) | (with_reducible refine Kd.C_drewN ?_ _) | (with_reducible refine Kd.C_drew ?_) | exact HR351.out)) | (with_reducible refine Kd.C_alloc ?_ _) | (with_reducible refine Kd.C_drewN ?_ _) | (with_reducible refine Kd.C_drew ?_))); (case side2 => exact HC351.out); rintro e w42 ⟨rfl, hb⟩; refine ⟨_, rfl, ?_⟩; have n0_ := Aside0.mk (Kd.R_below (by (with_reducible repeat (first | apply Kd.R_alloc | apply Kd.R_drewN | apply Kd.R_drew)); exact HO_8.out) hb); have n1_ := Aside0.mk (Kd.R_below (by (with_reducible repeat (first | apply Kd.R_alloc | apply Kd.R_drewN | apply Kd.R_drew)); exact HO_9.out) hb); have n2_ := Aside0.mk (Kd.C_below (by repeat (first | (with_reducible exact HR351.out) | (with_reducible refine Kd.C_alloc ?_ _) | (with_reducible refine Kd.C_drewN ?_ _) | (with_reducible refine Kd.C_drew ?_) | exact HR351.out)) hb); have n3_ := Aside0.mk (below_step (by repeat (first | (with_reducible first | exact HB.out | apply below_alloc | apply pw_below_drewN | apply below_drew1) | exact HB.out)) hb); clear HO_8; clear HO_9; clear HR351; clear HB; have HO_8 := n0_; have HO_9 := n1_; have HR351 := n2_; have HB := n3_; clear n0_ n1_ n2_ n3_; (try clear hb); (try clear hb2); (try clear hk); (try clear hi)) | ((with_reducible refine gate_dst (N := 13) rfl ?_); (try (refine gate_guard (by rfl) ?_; dsimp only)); refine box_event ?hg (N := 13) ?hd (cs := #[.int .i64 0, .int .i64 0, .string (⟨#[]⟩ : ByteArray), .string (⟨#[]⟩ : ByteArray), .bool false]) (t := 25) ?hr ?_; (case hd => rfl); (case hg => rfl); (case hr => first | (go_simp; done) | (go_simp; rfl)); intro gb359 hg w43 hbox hb; have n0_ := Aside0.mk (Kd.R_below (by (with_reducible repeat (first | apply Kd.R_alloc | apply Kd.R_drewN | apply Kd.R_drew)); exact HO_8.out) hb); have n1_ := Aside0.mk (Kd.R_below (Kd.R_elderB (by (with_reducible repeat (first | apply Kd.R_alloc | apply Kd.R_drewN | apply Kd.R_drew)); exact HO_9.out) gb359 (Nat.le_of_eq hg.symm)) hb); have n2_ := Aside0.mk (Kd.C_below (by repeat (first | (with_reducible exact HR351.out) | (with_reducible refine Kd.C_alloc ?_ _) | (with_reducible refine Kd.C_drewN ?_ _) | (with_reducible refine Kd.C_drew ?_) | exact HR351.out)) hb); have n3_ := Aside0.mk (below_step (by repeat (first | (with_reducible first | exact HB.out | apply below_alloc | apply pw_below_drewN | apply below_drew1) | exact HB.out)) hb); have n4_ := Aside0.mk (hbox); have n5_ := Aside0.mk ((by rw [hg]; exact (below_size (by repeat (first | (with_reducible first | exact HB.out | apply below_alloc | apply pw_below_drewN | apply below_drew1) | exact HB.out))) : w.heap.size ≤ gb359)); have n6_ := Aside0.mk ((by rw [hg]; exact (below_size (by repeat (first | (with_reducible first | exact HB.out | apply below_alloc | apply pw_below_drewN | apply below_drew1) | exact HB.out))) : w.heap.size ≤ gb359)); clear HO_8; clear HO_9; clear HR351; clear HB; have HO_8 := n0_; have HO_9 := n1_; have HR351 := n2_; have HB := n3_; have BK359 := n4_; have GW359 := n5_; have GE359 := n6_; clear n0_ n1_ n2_ n3_ n4_ n5_ n6_; clear hb hbox hg; have hcz44_0 : w43.cell? ⟨gb359, 0, none⟩ = some (.int .i64 0) := (blk_cell BK359.out 0).trans rfl; have hcz44_1 : w43.cell? ⟨gb359, 1, none⟩ = some (.int .i64 0) := (blk_cell BK359.out 1).trans rfl; have hcz44_2 : w43.cell? ⟨gb359, 2, none⟩ = some (.string (⟨#[]⟩ : ByteArray)) := (blk_cell BK359.out 2).trans rfl; have hcz44_3 : w43.cell? ⟨gb359, 3, none⟩ = some (.string (⟨#[]⟩ : ByteArray)) := (blk_cell BK359.out 3).trans rfl; have hcz44_4 : w43.cell? ⟨gb359, 4, none⟩ = some (.bool false) := (blk_cell BK359.out 4).trans rfl; have hfz44_0 := blk_frozen BK359.out 0; have hfz44_1 := blk_frozen BK359.out 1; have hfz44_2 := blk_frozen BK359.out 2; have hfz44_3 := blk_frozen BK359.out 3; have hfz44_4 := blk_frozen BK359.out 4))
                                have n0_ : Aside0 (Kd.R (Kd.int .u8) 5 (((((w43.setCell ⟨gb359, 0, none⟩ (.int .i64 t352)).setCell ⟨gb359, 1, none⟩ (.int .i64 t353)).setCell ⟨gb359, 2, none⟩ (.string t354)).setCell ⟨gb359, 3, none⟩ (.string t355)).setCell ⟨gb359, 4, none⟩ (.bool t356)) w.heap.size (fun _ => True) (.slice Ao40 x8_2.length co40) x8_2) := ⟨by (with_reducible repeat (first | apply Kd.R_alloc | apply Kd.R_drewN | apply Kd.R_drew)); exact Kd.R_mono (Kd.R_far (p := ⟨gb359, 4, none⟩) (Kd.R_far (p := ⟨gb359, 3, none⟩) (Kd.R_far (p := ⟨gb359, 2, none⟩) (Kd.R_far (p := ⟨gb359, 1, none⟩) (Kd.R_far (p := ⟨gb359, 0, none⟩) (Kd.R_types HO_8.out BK359.out (by decide)) (fun _ hk => hk.2) (.int .i64 t352)) (fun _ hk => hk.2) (.int .i64 t353)) (fun _ hk => hk.2) (.string t354)) (fun _ hk => hk.2) (.string t355)) (fun _ hk => hk.2) (.bool t356)) (fun _ hk => trivial)⟩
                                have n1_ : Aside0 (Kd.R k25 25 (((((w43.setCell ⟨gb359, 0, none⟩ (.int .i64 t352)).setCell ⟨gb359, 1, none⟩ (.int .i64 t353)).setCell ⟨gb359, 2, none⟩ (.string t354)).setCell ⟨gb359, 3, none⟩ (.string t355)).setCell ⟨gb359, 4, none⟩ (.bool t356)) w.heap.size (fun k_ => k_ ≠ gb359) (.slice Ao39 x9_2.length co39) x9_2) := ⟨by (with_reducible repeat (first | apply Kd.R_alloc | apply Kd.R_drewN | apply Kd.R_drew)); exact Kd.R_mono (Kd.R_far (p := ⟨gb359, 4, none⟩) (Kd.R_far (p := ⟨gb359, 3, none⟩) (Kd.R_far (p := ⟨gb359, 2, none⟩) (Kd.R_far (p := ⟨gb359, 1, none⟩) (Kd.R_far (p := ⟨gb359, 0, none⟩) (Kd.R_mono HO_9.out (fun k_ hk => (⟨hk, hk.2⟩ : _ ∧ k_ ≠ gb359))) (fun _ hk => hk.2) (.int .i64 t352)) (fun _ hk => hk.2) (.int .i64 t353)) (fun _ hk => hk.2) (.string t354)) (fun _ hk => hk.2) (.string t355)) (fun _ hk => hk.2) (.bool t356)) (fun _ hk => hk.1.2)⟩
                                have n2_ : Aside0 ((((((w43.setCell ⟨gb359, 0, none⟩ (.int .i64 t352)).setCell ⟨gb359, 1, none⟩ (.int .i64 t353)).setCell ⟨gb359, 2, none⟩ (.string t354)).setCell ⟨gb359, 3, none⟩ (.string t355)).setCell ⟨gb359, 4, none⟩ (.bool t356)).heap[gb359]? = some (.cells #[.int .i64 t352, .int .i64 t353, .string t354, .string t355, .bool t356] 25 (0, 0))) := ⟨by (with_reducible repeat (first | refine blk_drewN ?_ _ | refine blk_drew ?_ | refine blk_alloc ?_ _)); refine blk_put (cs := #[.int .i64 t352, .int .i64 t353, .string t354, .string t355, .bool false]) ?_ 4 _ rfl; (with_reducible repeat (first | refine blk_drewN ?_ _ | refine blk_drew ?_ | refine blk_alloc ?_ _)); refine blk_put (cs := #[.int .i64 t352, .int .i64 t353, .string t354, .string (⟨#[]⟩ : ByteArray), .bool false]) ?_ 3 _ rfl; (with_reducible repeat (first | refine blk_drewN ?_ _ | refine blk_drew ?_ | refine blk_alloc ?_ _)); refine blk_put (cs := #[.int .i64 t352, .int .i64 t353, .string (⟨#[]⟩ : ByteArray), .string (⟨#[]⟩ : ByteArray), .bool false]) ?_ 2 _ rfl; (with_reducible repeat (first | refine blk_drewN ?_ _ | refine blk_drew ?_ | refine blk_alloc ?_ _)); refine blk_put (cs := #[.int .i64 t352, .int .i64 0, .string (⟨#[]⟩ : ByteArray), .string (⟨#[]⟩ : ByteArray), .bool false]) ?_ 1 _ rfl; (with_reducible repeat (first | refine blk_drewN ?_ _ | refine blk_drew ?_ | refine blk_alloc ?_ _)); refine blk_put (cs := #[.int .i64 0, .int .i64 0, .string (⟨#[]⟩ : ByteArray), .string (⟨#[]⟩ : ByteArray), .bool false]) ?_ 0 _ rfl; (with_reducible repeat (first | refine blk_drewN ?_ _ | refine blk_drew ?_ | refine blk_alloc ?_ _)); exact BK359.out⟩
                                have n3_ : Aside0 (Below w.heap.size w (((((w43.setCell ⟨gb359, 0, none⟩ (.int .i64 t352)).setCell ⟨gb359, 1, none⟩ (.int .i64 t353)).setCell ⟨gb359, 2, none⟩ (.string t354)).setCell ⟨gb359, 3, none⟩ (.string t355)).setCell ⟨gb359, 4, none⟩ (.bool t356))) := ⟨by repeat (first | (with_reducible first | exact HB.out | apply below_alloc | apply pw_below_drewN | apply below_drew1 | refine below_set ?_ GE359.out) | exact HB.out)⟩
                                (try clear HO_8)
                                (try clear HO_9)
                                (try clear BK359)
                                (try clear HB)
                                generalize (((((w43.setCell ⟨gb359, 0, none⟩ (.int .i64 t352)).setCell ⟨gb359, 1, none⟩ (.int .i64 t353)).setCell ⟨gb359, 2, none⟩ (.string t354)).setCell ⟨gb359, 3, none⟩ (.string t355)).setCell ⟨gb359, 4, none⟩ (.bool t356)) = w45 at n0_ n1_ n2_ n3_ ⊢
                                have HO_8 := n0_
                                have HO_9 := n1_
                                have BK359 := n2_
                                have HB := n3_
                                clear n0_ n1_ n2_ n3_
                                have n0_ := Aside0.mk (Kd.R_drew HO_8.out)
                                have n1_ := Aside0.mk (Kd.R_drew HO_9.out)
                                have n2_ := Aside0.mk (blk_drew BK359.out)
                                have n3_ := Aside0.mk (below_drew1 HB.out)
                                clear HO_8
                                clear HO_9
                                clear BK359
                                clear HB
                                have HO_8 := n0_
                                have HO_9 := n1_
                                have BK359 := n2_
                                have HB := n3_
                                clear n0_ n1_ n2_ n3_
                                have p361 : 0 ≤ (x12_3 : Int) := of_decide_eq_true (by first | (with_reducible assumption) | assumption)
                                have q361 : x12_3 < (x9_2.length : Int) := of_decide_eq_true (by first | (with_reducible assumption) | assumption)
                                obtain ⟨ad361, e361, hx361_0, hx361_1, hx361_2, hx361_3, hx361_4⟩ := at_T25 (Kd.R_reads' HO_9.out).2.2 x12_3 p361 q361
                                cases e361
                                replace p361 := eq_true p361
                                replace q361 := eq_true q361
                                refine start_ (n := 15) (S := fun w' => w'.cell? ⟨gb359, 0, none⟩ = some (.int .i64 t352) ∧ w'.cell? ⟨gb359, 1, none⟩ = some (.int .i64 t353) ∧ w'.cell? ⟨gb359, 2, none⟩ = some (.string t354) ∧ w'.cell? ⟨gb359, 3, none⟩ = some (.string t355) ∧ w'.cell? ⟨gb359, 4, none⟩ = some (.bool t356) ∧ w'.cell? (ad361.add ((x12_3).toNat * 5)) = some (.int .i64 ((rd_T25 x9_2 x12_3).f0)) ∧ w'.cell? ⟨(ad361.add ((x12_3).toNat * 5)).block, (ad361.add ((x12_3).toNat * 5)).off + 1, none⟩ = some (.int .i64 ((rd_T25 x9_2 x12_3).f1)) ∧ w'.cell? ⟨(ad361.add ((x12_3).toNat * 5)).block, (ad361.add ((x12_3).toNat * 5)).off + 2, none⟩ = some (.string ((rd_T25 x9_2 x12_3).f2)) ∧ w'.cell? ⟨(ad361.add ((x12_3).toNat * 5)).block, (ad361.add ((x12_3).toNat * 5)).off + 3, none⟩ = some (.string ((rd_T25 x9_2 x12_3).f3)) ∧ w'.cell? ⟨(ad361.add ((x12_3).toNat * 5)).block, (ad361.add ((x12_3).toNat * 5)).off + 4, none⟩ = some (.bool ((rd_T25 x9_2 x12_3).f4))) (ds := []) #[false, false, false, false, false, false, false, false, false, false, false, false, false, false, false] (by kernel_rfl) rfl rfl ⟨(blk_cell BK359.out 0).trans rfl, (blk_cell BK359.out 1).trans rfl, (blk_cell BK359.out 2).trans rfl, (blk_cell BK359.out 3).trans rfl, (blk_cell BK359.out 4).trans rfl, hx361_0, hx361_1, hx361_2, hx361_3, hx361_4⟩ (fun hHeld => ?_); refine with_tabW cooperagelaw4_RecordRow.tab21 cooperagelaw4_RecordRow.bits21 (fun HT_ HW_ => ?_)
                                generalize w45.drew = w46 at HO_8 HO_9 BK359 HB hx361_0 hx361_1 hx361_2 hx361_3 hx361_4 hHeld ⊢
                                refine pure_ (i := 0) (N := some 91) (v := ?_) (a' := ?_) #[true, false, false, false, false, false, false, false, false, false, false, false, false, false, false] rfl rfl (any_of HT_.out (by kernel_rfl)) (fun _ _ _ h => h) (Or.inl ⟨by rfl, ?_⟩) ?_ ?_
                                rotate_left
                                · intro w'
                                  go_simp
                                  with_reducible rfl
                                rotate_left
                                · simp only [Act.put, List.setIfInBounds_toArray, List.set_cons_zero, List.set_cons_succ, i64_w, i32_w]
                                  rfl
                                refine one_ (i := 1) (N := some 92) #[true, true, false, false, false, false, false, false, false, false, false, false, false, false, false] rfl rfl (one_of HT_.out (by kernel_rfl)) (by decide) (fun K hK => ?_)
                                refine goes_ Try.func27 (by kernel_rfl) rfl #[.int .i64 t358] (by rfl) rfl rfl (by (try simp only [List.map_toArray, List.map_cons, List.map_nil]); first | done | rfl | (simp only [List.length_drop, List.length_take]; rfl)) ?_
                                with_reducible refine (cooperagelaw4_num.calls t358 t360 _ A35.out).mono ?_
                                rintro e w' ⟨rfl, ⟨nd, rfl⟩⟩
                                refine ⟨_, rfl, ?_⟩
                                refine hK.out _ _ ⟨(blk_cell BK359.out 0).trans rfl, (blk_cell BK359.out 1).trans rfl, (blk_cell BK359.out 2).trans rfl, (blk_cell BK359.out 3).trans rfl, (blk_cell BK359.out 4).trans rfl, hHeld.2.2.2.2.2.1, hHeld.2.2.2.2.2.2.1, hHeld.2.2.2.2.2.2.2.1, hHeld.2.2.2.2.2.2.2.2.1, hHeld.2.2.2.2.2.2.2.2.2⟩ (fun hHeld => ?_)
                                clear hK K
                                refine norm_ (a' := ?_) ?_ ?_
                                rotate_left
                                · show Act.put _ (some 92) _ = _
                                  simp only [Act.put, List.setIfInBounds_toArray, List.set_cons_zero, List.set_cons_succ, i64_w, i32_w]
                                  rfl
                                refine pure_ (i := 2) (N := some 93) (v := ?_) (a' := ?_) #[true, true, true, false, false, false, false, false, false, false, false, false, false, false, false] rfl rfl (any_of HT_.out (by kernel_rfl)) (fun _ _ _ h => h) (Or.inl ⟨by rfl, ?_⟩) ?_ ?_
                                rotate_left
                                · intro w'
                                  go_simp
                                  with_reducible rfl
                                rotate_left
                                · simp only [Act.put, List.setIfInBounds_toArray, List.set_cons_zero, List.set_cons_succ, i64_w, i32_w]
                                  rfl
                                refine pure_ (i := 3) (N := some 94) (v := ?_) (a' := ?_) #[true, true, true, true, false, false, false, false, false, false, false, false, false, false, false] rfl rfl (any_of HT_.out (by kernel_rfl)) (fun _ _ _ h => h) (Or.inl ⟨by rfl, ?_⟩) ?_ ?_
                                rotate_left
                                · intro w'
                                  go_simp
                                  with_reducible rfl
                                rotate_left
                                · simp only [Act.put, List.setIfInBounds_toArray, List.set_cons_zero, List.set_cons_succ, i64_w, i32_w]
                                  rfl
                                refine pure_ (i := 5) (N := some 96) (v := ?_) (a' := ?_) #[true, true, true, true, false, true, false, false, false, false, false, false, false, false, false] rfl rfl (any_of HT_.out (by kernel_rfl)) (fun _ _ _ h => h) (Or.inl ⟨by rfl, ?_⟩) ?_ ?_
                                rotate_left
                                · intro w'
                                  go_simp
                                  with_reducible rfl
                                rotate_left
                                · simp only [Act.put, List.setIfInBounds_toArray, List.set_cons_zero, List.set_cons_succ, i64_w, i32_w]
                                  rfl
                                refine pure_ (i := 6) (N := some 97) (v := ?_) (a' := ?_) #[true, true, true, true, false, true, true, false, false, false, false, false, false, false, false] rfl rfl (any_of HT_.out (by kernel_rfl)) (fun _ _ _ h => h) (Or.inl ⟨by rfl, ?_⟩) ?_ ?_
                                rotate_left
                                · intro w'
                                  go_simp
                                  with_reducible rfl
                                rotate_left
                                · simp only [Act.put, List.setIfInBounds_toArray, List.set_cons_zero, List.set_cons_succ, i64_w, i32_w]
                                  rfl
                                refine pure_ (i := 7) (N := some 98) (v := ?_) (a' := ?_) #[true, true, true, true, false, true, true, true, false, false, false, false, false, false, false] rfl rfl (any_of HT_.out (by kernel_rfl)) (fun _ _ _ h => h) (Or.inl ⟨by rfl, ?_⟩) ?_ ?_
                                rotate_left
                                · intro w'
                                  go_simp
                                  with_reducible rfl
                                rotate_left
                                · simp only [Act.put, List.setIfInBounds_toArray, List.set_cons_zero, List.set_cons_succ, i64_w, i32_w]
                                  rfl
                                refine take_ (i := 4) (N := some 95) (v := ?_) (a' := ?_) #[true, true, true, true, true, true, true, true, false, false, false, false, false, false, false] rfl rfl (take_ofW HT_.out HW_.out (by kernel_rfl)) (fun _ _ _ h => h) (Or.inl ⟨by rfl, ?_⟩) hHeld ?_ ?_
                                rotate_left
                                · rintro w' ⟨s0, s1, s2, s3, s4, s5, s6, s7, s8, s9⟩
                                  go_simp
                                  with_reducible rfl
                                rotate_left
                                · simp only [Act.put, List.setIfInBounds_toArray, List.set_cons_zero, List.set_cons_succ, i64_w, i32_w]
                                  rfl
                                refine take_ (i := 8) (N := some 99) (v := ?_) (a' := ?_) #[true, true, true, true, true, true, true, true, true, false, false, false, false, false, false] rfl rfl (take_ofW HT_.out HW_.out (by kernel_rfl)) (fun _ _ _ h => h) (Or.inl ⟨by rfl, ?_⟩) hHeld ?_ ?_
                                rotate_left
                                · rintro w' ⟨s0, s1, s2, s3, s4, s5, s6, s7, s8, s9⟩
                                  go_simp
                                  with_reducible rfl
                                rotate_left
                                · simp only [Act.put, List.setIfInBounds_toArray, List.set_cons_zero, List.set_cons_succ, i64_w, i32_w]
                                  rfl
                                refine pure_ (i := 9) (N := some 100) (v := ?_) (a' := ?_) #[true, true, true, true, true, true, true, true, true, true, false, false, false, false, false] rfl rfl (any_of HT_.out (by kernel_rfl)) (fun _ _ _ h => h) (Or.inl ⟨by rfl, ?_⟩) ?_ ?_
                                rotate_left
                                · intro w'
                                  go_simp
                                  with_reducible rfl
                                rotate_left
                                · simp only [Act.put, List.setIfInBounds_toArray, List.set_cons_zero, List.set_cons_succ, i64_w, i32_w]
                                  rfl
                                refine pure_ (i := 10) (N := some 101) (v := ?_) (a' := ?_) #[true, true, true, true, true, true, true, true, true, true, true, false, false, false, false] rfl rfl (any_of HT_.out (by kernel_rfl)) (fun _ _ _ h => h) (Or.inl ⟨by rfl, ?_⟩) ?_ ?_
                                rotate_left
                                · intro w'
                                  go_simp
                                  with_reducible rfl
                                rotate_left
                                · simp only [Act.put, List.setIfInBounds_toArray, List.set_cons_zero, List.set_cons_succ, i64_w, i32_w]
                                  rfl
                                refine pure_ (i := 11) (N := some 102) (v := ?_) (a' := ?_) #[true, true, true, true, true, true, true, true, true, true, true, true, false, false, false] rfl rfl (any_of HT_.out (by kernel_rfl)) (fun _ _ _ h => h) (Or.inl ⟨by rfl, ?_⟩) ?_ ?_
                                rotate_left
                                · intro w'
                                  go_simp
                                  with_reducible rfl
                                rotate_left
                                · simp only [Act.put, List.setIfInBounds_toArray, List.set_cons_zero, List.set_cons_succ, i64_w, i32_w]
                                  rfl
                                refine pure_ (i := 12) (N := some 103) (v := undef) (a' := ?_) #[true, true, true, true, true, true, true, true, true, true, true, true, true, false, false] rfl rfl (any_of HT_.out (by kernel_rfl)) (fun _ _ _ h => h) (Or.inr ⟨by rfl, rfl⟩) ?_ ?_
                                rotate_left
                                · simp only [Act.put, List.setIfInBounds_toArray, List.set_cons_zero, List.set_cons_succ, i64_w, i32_w]
                                  rfl
                                refine pure_ (i := 13) (N := some 104) (v := undef) (a' := ?_) #[true, true, true, true, true, true, true, true, true, true, true, true, true, true, false] rfl rfl (any_of HT_.out (by kernel_rfl)) (fun _ _ _ h => h) (Or.inr ⟨by rfl, rfl⟩) ?_ ?_
                                rotate_left
                                · simp only [Act.put, List.setIfInBounds_toArray, List.set_cons_zero, List.set_cons_succ, i64_w, i32_w]
                                  rfl
                                refine pure_ (i := 14) (N := some 105) (v := ?_) (a' := ?_) #[true, true, true, true, true, true, true, true, true, true, true, true, true, true, true] rfl rfl (any_of HT_.out (by kernel_rfl)) (fun _ _ _ h => h) (Or.inl ⟨by rfl, ?_⟩) ?_ ?_
                                rotate_left
                                · intro w'
                                  go_simp
                                  with_reducible rfl
                                rotate_left
                                · simp only [Act.put, List.setIfInBounds_toArray, List.set_cons_zero, List.set_cons_succ, i64_w, i32_w]
                                  rfl
                                refine done_ (done_of HT_.out (by kernel_rfl)) ?_
                                try go_wp2
                                go_ret
                                exact ⟨by first | rfl | (simp [errW_none, errW_some] <;> rfl) | (simp [*, errW_none, errW_some] <;> rfl) | (simp [errW_none, errW_some]; generalize ByteArray.toList _ = l_; cases l_ <;> rfl), by repeat (first | (with_reducible first | exact HB.out | apply below_alloc | apply pw_below_drewN | apply below_drew1 | refine below_set ?_ GE359.out) | exact HB.out)⟩
                              · rw [if_neg c38] at H
                                have c38b0 : (!(t352 == ((rd_T25 x9_2 x12_3).f0)) || (!(t353 == ((rd_T25 x9_2 x12_3).f1)) || (!(t354.toList == (((rd_T25 x9_2 x12_3).f2).toList)) || (!(t355.toList == (((rd_T25 x9_2 x12_3).f3).toList)) || (!(t356 == ((rd_T25 x9_2 x12_3).f4))))))) = false := by simpa using c38
                                clear c38
                                by_cases c47 : t357 < 1
                                · rw [if_pos c47] at H
                                  have c47b0 : decide (t357 < 1) = true := decide_eq_true c47
                                  clear c47
                                  obtain rfl := Option.some.inj H
                                  obtain ⟨Ao48, co48, eo48⟩ := Kd.R_slice HO_9.out
                                  subst eo48
                                  obtain ⟨Ao49, co49, eo49⟩ := Kd.R_slice HO_8.out
                                  subst eo49
                                  have q50 : (x11_3 : Int) ≤ ((x8_2.length : Int) : Int) := of_decide_eq_true (by first | (with_reducible assumption) | assumption)
                                  obtain ⟨i050, hi050, _, hsz50, _⟩ := info_parts info5
                                  have hroom50 : x8_2.length ≤ co49 := (Kd.R_reads' HO_8.out).2.1
                                  have hC50 : Kd.C (Kd.int .u8) _ Ao49 x8_2.length x8_2 := (Kd.R_reads' HO_8.out).2.2
                                  have q050 : (0 : Int) ≤ (x11_3 : Int) := of_decide_eq_true (by first | (with_reducible assumption) | assumption)
                                  have hcut50 := cut_from (P := Try.prog) 30 5 .i64 Try.underlying30 hi050 1 hsz50 Ao49 x8_2.length co49 x11_3 q050 q50
                                  have hr50 := Kd.C_drop (m := (x11_3 : Int).toNat) (c := co49) hC50 (by omega) hroom50
                                  obtain ⟨A50, hA50⟩ : ∃ A1, A1 = (if co49 = (x11_3 : Int).toNat then Ao49 else (Ao49 : Option Addr).map (·.add ((x11_3 : Int).toNat * 1))) := ⟨_, rfl⟩
                                  obtain ⟨c50, hc50⟩ : ∃ c1, c1 = co49 - (x11_3 : Int).toNat := ⟨_, rfl⟩
                                  have hy50 : y348.length = x8_2.length - (x11_3 : Int).toNat := (by rw [Ny348.out, List.length_drop] <;> omega)
                                  rw [show (x8_2).drop (x11_3 : Int).toNat = y348 from Ny348.out.symm] at hr50
                                  replace hr50 : Kd.C (Kd.int .u8) _ A50 y348.length y348 := (by rw [hA50]; exact hr50)
                                  rw [← hy50, ← hA50, ← hc50] at hcut50
                                  have HR351 := Aside0.mk hr50
                                  have HC351 := Aside0.mk (show y348.length ≤ c50 from by rw [hy50, hc50]; exact Nat.sub_le_sub_right hroom50 _)
                                  clear hr50 hC50 hroom50 hi050 hsz50 hc50
                                  have KY50 := Aside0.mk hy50
                                  have KA50 := Aside0.mk hA50
                                  clear hy50 hA50
                                  have KL50 := Aside0.mk (show (x11_3 : Int).toNat ≤ x8_2.length from by omega)
                                  replace q50 := eq_true q50
                                  try go_wp2_with (first | ((with_reducible refine gate_callee (f := 25) rfl ?_); refine goesL_ (some 87) rfl rfl Try.func25 (by kernel_rfl) rfl #[.slice A50 y348.length c50] rfl (by (try simp only [List.map_toArray, List.map_cons, List.map_nil]); first | done | rfl | (simp only [List.length_drop, List.length_take]; rfl)) ?_; (with_reducible refine (record_Get.calls k3 _ _ y348 t352 t353 t354 t355 t356 t357 t358 _ ?side1 ?side2 A34.out).mono ?_); (case side1 => repeat (first | exact (by repeat (first | (with_reducible exact HR351.out) | (with_reducible refine Kd.C_alloc ?_ _) | (with_reducible refine Kd.C_drewN ?_ _) | (with_reducible refine Kd.C_drew ?_) | exact HR351.out)) | (with_reducible refine Kd.C_alloc ?_ _) | (with_reducible refine Kd.C_drewN ?_ _) | (with_reducible refine Kd.C_drew ?_))); (case side2 => exact HC351.out); rintro e w51 ⟨rfl, hb⟩; refine ⟨_, rfl, ?_⟩; have n0_ := Aside0.mk (Kd.R_below (by (with_reducible repeat (first | apply Kd.R_alloc | apply Kd.R_drewN | apply Kd.R_drew)); exact HO_8.out) hb); have n1_ := Aside0.mk (Kd.R_below (by (with_reducible repeat (first | apply Kd.R_alloc | apply Kd.R_drewN | apply Kd.R_drew)); exact HO_9.out) hb); have n2_ := Aside0.mk (Kd.C_below (by repeat (first | (with_reducible exact HR351.out) | (with_reducible refine Kd.C_alloc ?_ _) | (with_reducible refine Kd.C_drewN ?_ _) | (with_reducible refine Kd.C_drew ?_) | exact HR351.out)) hb); have n3_ := Aside0.mk (below_step (by repeat (first | (with_reducible first | exact HB.out | apply below_alloc | apply pw_below_drewN | apply below_drew1) | exact HB.out)) hb); clear HO_8; clear HO_9; clear HR351; clear HB; have HO_8 := n0_; have HO_9 := n1_; have HR351 := n2_; have HB := n3_; clear n0_ n1_ n2_ n3_; (try clear hb); (try clear hb2); (try clear hk); (try clear hi)) | ((with_reducible refine gate_dst (N := 13) rfl ?_); (try (refine gate_guard (by rfl) ?_; dsimp only)); refine box_event ?hg (N := 13) ?hd (cs := #[.int .i64 0, .int .i64 0, .string (⟨#[]⟩ : ByteArray), .string (⟨#[]⟩ : ByteArray), .bool false]) (t := 25) ?hr ?_; (case hd => rfl); (case hg => rfl); (case hr => first | (go_simp; done) | (go_simp; rfl)); intro gb359 hg w52 hbox hb; have n0_ := Aside0.mk (Kd.R_below (by (with_reducible repeat (first | apply Kd.R_alloc | apply Kd.R_drewN | apply Kd.R_drew)); exact HO_8.out) hb); have n1_ := Aside0.mk (Kd.R_below (Kd.R_elderB (by (with_reducible repeat (first | apply Kd.R_alloc | apply Kd.R_drewN | apply Kd.R_drew)); exact HO_9.out) gb359 (Nat.le_of_eq hg.symm)) hb); have n2_ := Aside0.mk (Kd.C_below (by repeat (first | (with_reducible exact HR351.out) | (with_reducible refine Kd.C_alloc ?_ _) | (with_reducible refine Kd.C_drewN ?_ _) | (with_reducible refine Kd.C_drew ?_) | exact HR351.out)) hb); have n3_ := Aside0.mk (below_step (by repeat (first | (with_reducible first | exact HB.out | apply below_alloc | apply pw_below_drewN | apply below_drew1) | exact HB.out)) hb); have n4_ := Aside0.mk (hbox); have n5_ := Aside0.mk ((by rw [hg]; exact (below_size (by repeat (first | (with_reducible first | exact HB.out | apply below_alloc | apply pw_below_drewN | apply below_drew1) | exact HB.out))) : w.heap.size ≤ gb359)); have n6_ := Aside0.mk ((by rw [hg]; exact (below_size (by repeat (first | (with_reducible first | exact HB.out | apply below_alloc | apply pw_below_drewN | apply below_drew1) | exact HB.out))) : w.heap.size ≤ gb359)); clear HO_8; clear HO_9; clear HR351; clear HB; have HO_8 := n0_; have HO_9 := n1_; have HR351 := n2_; have HB := n3_; have BK359 := n4_; have GW359 := n5_; have GE359 := n6_; clear n0_ n1_ n2_ n3_ n4_ n5_ n6_; clear hb hbox hg; have hcz53_0 : w52.cell? ⟨gb359, 0, none⟩ = some (.int .i64 0) := (blk_cell BK359.out 0).trans rfl; have hcz53_1 : w52.cell? ⟨gb359, 1, none⟩ = some (.int .i64 0) := (blk_cell BK359.out 1).trans rfl; have hcz53_2 : w52.cell? ⟨gb359, 2, none⟩ = some (.string (⟨#[]⟩ : ByteArray)) := (blk_cell BK359.out 2).trans rfl; have hcz53_3 : w52.cell? ⟨gb359, 3, none⟩ = some (.string (⟨#[]⟩ : ByteArray)) := (blk_cell BK359.out 3).trans rfl; have hcz53_4 : w52.cell? ⟨gb359, 4, none⟩ = some (.bool false) := (blk_cell BK359.out 4).trans rfl; have hfz53_0 := blk_frozen BK359.out 0; have hfz53_1 := blk_frozen BK359.out 1; have hfz53_2 := blk_frozen BK359.out 2; have hfz53_3 := blk_frozen BK359.out 3; have hfz53_4 := blk_frozen BK359.out 4))
                                  have n0_ : Aside0 (Kd.R (Kd.int .u8) 5 (((((w52.setCell ⟨gb359, 0, none⟩ (.int .i64 t352)).setCell ⟨gb359, 1, none⟩ (.int .i64 t353)).setCell ⟨gb359, 2, none⟩ (.string t354)).setCell ⟨gb359, 3, none⟩ (.string t355)).setCell ⟨gb359, 4, none⟩ (.bool t356)) w.heap.size (fun _ => True) (.slice Ao49 x8_2.length co49) x8_2) := ⟨by (with_reducible repeat (first | apply Kd.R_alloc | apply Kd.R_drewN | apply Kd.R_drew)); exact Kd.R_mono (Kd.R_far (p := ⟨gb359, 4, none⟩) (Kd.R_far (p := ⟨gb359, 3, none⟩) (Kd.R_far (p := ⟨gb359, 2, none⟩) (Kd.R_far (p := ⟨gb359, 1, none⟩) (Kd.R_far (p := ⟨gb359, 0, none⟩) (Kd.R_types HO_8.out BK359.out (by decide)) (fun _ hk => hk.2) (.int .i64 t352)) (fun _ hk => hk.2) (.int .i64 t353)) (fun _ hk => hk.2) (.string t354)) (fun _ hk => hk.2) (.string t355)) (fun _ hk => hk.2) (.bool t356)) (fun _ hk => trivial)⟩
                                  have n1_ : Aside0 (Kd.R k25 25 (((((w52.setCell ⟨gb359, 0, none⟩ (.int .i64 t352)).setCell ⟨gb359, 1, none⟩ (.int .i64 t353)).setCell ⟨gb359, 2, none⟩ (.string t354)).setCell ⟨gb359, 3, none⟩ (.string t355)).setCell ⟨gb359, 4, none⟩ (.bool t356)) w.heap.size (fun k_ => k_ ≠ gb359) (.slice Ao48 x9_2.length co48) x9_2) := ⟨by (with_reducible repeat (first | apply Kd.R_alloc | apply Kd.R_drewN | apply Kd.R_drew)); exact Kd.R_mono (Kd.R_far (p := ⟨gb359, 4, none⟩) (Kd.R_far (p := ⟨gb359, 3, none⟩) (Kd.R_far (p := ⟨gb359, 2, none⟩) (Kd.R_far (p := ⟨gb359, 1, none⟩) (Kd.R_far (p := ⟨gb359, 0, none⟩) (Kd.R_mono HO_9.out (fun k_ hk => (⟨hk, hk.2⟩ : _ ∧ k_ ≠ gb359))) (fun _ hk => hk.2) (.int .i64 t352)) (fun _ hk => hk.2) (.int .i64 t353)) (fun _ hk => hk.2) (.string t354)) (fun _ hk => hk.2) (.string t355)) (fun _ hk => hk.2) (.bool t356)) (fun _ hk => hk.1.2)⟩
                                  have n2_ : Aside0 ((((((w52.setCell ⟨gb359, 0, none⟩ (.int .i64 t352)).setCell ⟨gb359, 1, none⟩ (.int .i64 t353)).setCell ⟨gb359, 2, none⟩ (.string t354)).setCell ⟨gb359, 3, none⟩ (.string t355)).setCell ⟨gb359, 4, none⟩ (.bool t356)).heap[gb359]? = some (.cells #[.int .i64 t352, .int .i64 t353, .string t354, .string t355, .bool t356] 25 (0, 0))) := ⟨by (with_reducible repeat (first | refine blk_drewN ?_ _ | refine blk_drew ?_ | refine blk_alloc ?_ _)); refine blk_put (cs := #[.int .i64 t352, .int .i64 t353, .string t354, .string t355, .bool false]) ?_ 4 _ rfl; (with_reducible repeat (first | refine blk_drewN ?_ _ | refine blk_drew ?_ | refine blk_alloc ?_ _)); refine blk_put (cs := #[.int .i64 t352, .int .i64 t353, .string t354, .string (⟨#[]⟩ : ByteArray), .bool false]) ?_ 3 _ rfl; (with_reducible repeat (first | refine blk_drewN ?_ _ | refine blk_drew ?_ | refine blk_alloc ?_ _)); refine blk_put (cs := #[.int .i64 t352, .int .i64 t353, .string (⟨#[]⟩ : ByteArray), .string (⟨#[]⟩ : ByteArray), .bool false]) ?_ 2 _ rfl; (with_reducible repeat (first | refine blk_drewN ?_ _ | refine blk_drew ?_ | refine blk_alloc ?_ _)); refine blk_put (cs := #[.int .i64 t352, .int .i64 0, .string (⟨#[]⟩ : ByteArray), .string (⟨#[]⟩ : ByteArray), .bool false]) ?_ 1 _ rfl; (with_reducible repeat (first | refine blk_drewN ?_ _ | refine blk_drew ?_ | refine blk_alloc ?_ _)); refine blk_put (cs := #[.int .i64 0, .int .i64 0, .string (⟨#[]⟩ : ByteArray), .string (⟨#[]⟩ : ByteArray), .bool false]) ?_ 0 _ rfl; (with_reducible repeat (first | refine blk_drewN ?_ _ | refine blk_drew ?_ | refine blk_alloc ?_ _)); exact BK359.out⟩
                                  have n3_ : Aside0 (Below w.heap.size w (((((w52.setCell ⟨gb359, 0, none⟩ (.int .i64 t352)).setCell ⟨gb359, 1, none⟩ (.int .i64 t353)).setCell ⟨gb359, 2, none⟩ (.string t354)).setCell ⟨gb359, 3, none⟩ (.string t355)).setCell ⟨gb359, 4, none⟩ (.bool t356))) := ⟨by repeat (first | (with_reducible first | exact HB.out | apply below_alloc | apply pw_below_drewN | apply below_drew1 | refine below_set ?_ GE359.out) | exact HB.out)⟩
                                  (try clear HO_8)
                                  (try clear HO_9)
                                  (try clear BK359)
                                  (try clear HB)
                                  generalize (((((w52.setCell ⟨gb359, 0, none⟩ (.int .i64 t352)).setCell ⟨gb359, 1, none⟩ (.int .i64 t353)).setCell ⟨gb359, 2, none⟩ (.string t354)).setCell ⟨gb359, 3, none⟩ (.string t355)).setCell ⟨gb359, 4, none⟩ (.bool t356)) = w54 at n0_ n1_ n2_ n3_ ⊢
                                  have HO_8 := n0_
                                  have HO_9 := n1_
                                  have BK359 := n2_
                                  have HB := n3_
                                  clear n0_ n1_ n2_ n3_
                                  have n0_ := Aside0.mk (Kd.R_drew HO_8.out)
                                  have n1_ := Aside0.mk (Kd.R_drew HO_9.out)
                                  have n2_ := Aside0.mk (blk_drew BK359.out)
                                  have n3_ := Aside0.mk (below_drew1 HB.out)
                                  clear HO_8
                                  clear HO_9
                                  clear BK359
                                  clear HB
                                  have HO_8 := n0_
                                  have HO_9 := n1_
                                  have BK359 := n2_
                                  have HB := n3_
                                  clear n0_ n1_ n2_ n3_
                                  have p361 : 0 ≤ (x12_3 : Int) := of_decide_eq_true (by first | (with_reducible assumption) | assumption)
                                  have q361 : x12_3 < (x9_2.length : Int) := of_decide_eq_true (by first | (with_reducible assumption) | assumption)
                                  obtain ⟨ad361, e361, hx361_0, hx361_1, hx361_2, hx361_3, hx361_4⟩ := at_T25 (Kd.R_reads' HO_9.out).2.2 x12_3 p361 q361
                                  cases e361
                                  replace p361 := eq_true p361
                                  replace q361 := eq_true q361
                                  refine start_ (n := 15) (S := fun w' => w'.cell? ⟨gb359, 0, none⟩ = some (.int .i64 t352) ∧ w'.cell? ⟨gb359, 1, none⟩ = some (.int .i64 t353) ∧ w'.cell? ⟨gb359, 2, none⟩ = some (.string t354) ∧ w'.cell? ⟨gb359, 3, none⟩ = some (.string t355) ∧ w'.cell? ⟨gb359, 4, none⟩ = some (.bool t356) ∧ w'.cell? (ad361.add ((x12_3).toNat * 5)) = some (.int .i64 ((rd_T25 x9_2 x12_3).f0)) ∧ w'.cell? ⟨(ad361.add ((x12_3).toNat * 5)).block, (ad361.add ((x12_3).toNat * 5)).off + 1, none⟩ = some (.int .i64 ((rd_T25 x9_2 x12_3).f1)) ∧ w'.cell? ⟨(ad361.add ((x12_3).toNat * 5)).block, (ad361.add ((x12_3).toNat * 5)).off + 2, none⟩ = some (.string ((rd_T25 x9_2 x12_3).f2)) ∧ w'.cell? ⟨(ad361.add ((x12_3).toNat * 5)).block, (ad361.add ((x12_3).toNat * 5)).off + 3, none⟩ = some (.string ((rd_T25 x9_2 x12_3).f3)) ∧ w'.cell? ⟨(ad361.add ((x12_3).toNat * 5)).block, (ad361.add ((x12_3).toNat * 5)).off + 4, none⟩ = some (.bool ((rd_T25 x9_2 x12_3).f4))) (ds := []) #[false, false, false, false, false, false, false, false, false, false, false, false, false, false, false] (by kernel_rfl) rfl rfl ⟨(blk_cell BK359.out 0).trans rfl, (blk_cell BK359.out 1).trans rfl, (blk_cell BK359.out 2).trans rfl, (blk_cell BK359.out 3).trans rfl, (blk_cell BK359.out 4).trans rfl, hx361_0, hx361_1, hx361_2, hx361_3, hx361_4⟩ (fun hHeld => ?_); refine with_tabW cooperagelaw4_RecordRow.tab21 cooperagelaw4_RecordRow.bits21 (fun HT_ HW_ => ?_)
                                  generalize w54.drew = w55 at HO_8 HO_9 BK359 HB hx361_0 hx361_1 hx361_2 hx361_3 hx361_4 hHeld ⊢
                                  refine pure_ (i := 0) (N := some 91) (v := ?_) (a' := ?_) #[true, false, false, false, false, false, false, false, false, false, false, false, false, false, false] rfl rfl (any_of HT_.out (by kernel_rfl)) (fun _ _ _ h => h) (Or.inl ⟨by rfl, ?_⟩) ?_ ?_
                                  rotate_left
                                  · intro w'
                                    go_simp
                                    with_reducible rfl
                                  rotate_left
                                  · simp only [Act.put, List.setIfInBounds_toArray, List.set_cons_zero, List.set_cons_succ, i64_w, i32_w]
                                    rfl
                                  refine one_ (i := 1) (N := some 92) #[true, true, false, false, false, false, false, false, false, false, false, false, false, false, false] rfl rfl (one_of HT_.out (by kernel_rfl)) (by decide) (fun K hK => ?_)
                                  refine goes_ Try.func27 (by kernel_rfl) rfl #[.int .i64 t358] (by rfl) rfl rfl (by (try simp only [List.map_toArray, List.map_cons, List.map_nil]); first | done | rfl | (simp only [List.length_drop, List.length_take]; rfl)) ?_
                                  with_reducible refine (cooperagelaw4_num.calls t358 t360 _ A35.out).mono ?_
                                  rintro e w' ⟨rfl, ⟨nd, rfl⟩⟩
                                  refine ⟨_, rfl, ?_⟩
                                  refine hK.out _ _ ⟨(blk_cell BK359.out 0).trans rfl, (blk_cell BK359.out 1).trans rfl, (blk_cell BK359.out 2).trans rfl, (blk_cell BK359.out 3).trans rfl, (blk_cell BK359.out 4).trans rfl, hHeld.2.2.2.2.2.1, hHeld.2.2.2.2.2.2.1, hHeld.2.2.2.2.2.2.2.1, hHeld.2.2.2.2.2.2.2.2.1, hHeld.2.2.2.2.2.2.2.2.2⟩ (fun hHeld => ?_)
                                  clear hK K
                                  refine norm_ (a' := ?_) ?_ ?_
                                  rotate_left
                                  · show Act.put _ (some 92) _ = _
                                    simp only [Act.put, List.setIfInBounds_toArray, List.set_cons_zero, List.set_cons_succ, i64_w, i32_w]
                                    rfl
                                  refine pure_ (i := 2) (N := some 93) (v := ?_) (a' := ?_) #[true, true, true, false, false, false, false, false, false, false, false, false, false, false, false] rfl rfl (any_of HT_.out (by kernel_rfl)) (fun _ _ _ h => h) (Or.inl ⟨by rfl, ?_⟩) ?_ ?_
                                  rotate_left
                                  · intro w'
                                    go_simp
                                    with_reducible rfl
                                  rotate_left
                                  · simp only [Act.put, List.setIfInBounds_toArray, List.set_cons_zero, List.set_cons_succ, i64_w, i32_w]
                                    rfl
                                  refine pure_ (i := 3) (N := some 94) (v := ?_) (a' := ?_) #[true, true, true, true, false, false, false, false, false, false, false, false, false, false, false] rfl rfl (any_of HT_.out (by kernel_rfl)) (fun _ _ _ h => h) (Or.inl ⟨by rfl, ?_⟩) ?_ ?_
                                  rotate_left
                                  · intro w'
                                    go_simp
                                    with_reducible rfl
                                  rotate_left
                                  · simp only [Act.put, List.setIfInBounds_toArray, List.set_cons_zero, List.set_cons_succ, i64_w, i32_w]
                                    rfl
                                  refine pure_ (i := 5) (N := some 96) (v := ?_) (a' := ?_) #[true, true, true, true, false, true, false, false, false, false, false, false, false, false, false] rfl rfl (any_of HT_.out (by kernel_rfl)) (fun _ _ _ h => h) (Or.inl ⟨by rfl, ?_⟩) ?_ ?_
                                  rotate_left
                                  · intro w'
                                    go_simp
                                    with_reducible rfl
                                  rotate_left
                                  · simp only [Act.put, List.setIfInBounds_toArray, List.set_cons_zero, List.set_cons_succ, i64_w, i32_w]
                                    rfl
                                  refine pure_ (i := 6) (N := some 97) (v := ?_) (a' := ?_) #[true, true, true, true, false, true, true, false, false, false, false, false, false, false, false] rfl rfl (any_of HT_.out (by kernel_rfl)) (fun _ _ _ h => h) (Or.inl ⟨by rfl, ?_⟩) ?_ ?_
                                  rotate_left
                                  · intro w'
                                    go_simp
                                    with_reducible rfl
                                  rotate_left
                                  · simp only [Act.put, List.setIfInBounds_toArray, List.set_cons_zero, List.set_cons_succ, i64_w, i32_w]
                                    rfl
                                  refine pure_ (i := 7) (N := some 98) (v := ?_) (a' := ?_) #[true, true, true, true, false, true, true, true, false, false, false, false, false, false, false] rfl rfl (any_of HT_.out (by kernel_rfl)) (fun _ _ _ h => h) (Or.inl ⟨by rfl, ?_⟩) ?_ ?_
                                  rotate_left
                                  · intro w'
                                    go_simp
                                    with_reducible rfl
                                  rotate_left
                                  · simp only [Act.put, List.setIfInBounds_toArray, List.set_cons_zero, List.set_cons_succ, i64_w, i32_w]
                                    rfl
                                  refine take_ (i := 4) (N := some 95) (v := ?_) (a' := ?_) #[true, true, true, true, true, true, true, true, false, false, false, false, false, false, false] rfl rfl (take_ofW HT_.out HW_.out (by kernel_rfl)) (fun _ _ _ h => h) (Or.inl ⟨by rfl, ?_⟩) hHeld ?_ ?_
                                  rotate_left
                                  · rintro w' ⟨s0, s1, s2, s3, s4, s5, s6, s7, s8, s9⟩
                                    go_simp
                                    with_reducible rfl
                                  rotate_left
                                  · simp only [Act.put, List.setIfInBounds_toArray, List.set_cons_zero, List.set_cons_succ, i64_w, i32_w]
                                    rfl
                                  refine take_ (i := 8) (N := some 99) (v := ?_) (a' := ?_) #[true, true, true, true, true, true, true, true, true, false, false, false, false, false, false] rfl rfl (take_ofW HT_.out HW_.out (by kernel_rfl)) (fun _ _ _ h => h) (Or.inl ⟨by rfl, ?_⟩) hHeld ?_ ?_
                                  rotate_left
                                  · rintro w' ⟨s0, s1, s2, s3, s4, s5, s6, s7, s8, s9⟩
                                    go_simp
                                    with_reducible rfl
                                  rotate_left
                                  · simp only [Act.put, List.setIfInBounds_toArray, List.set_cons_zero, List.set_cons_succ, i64_w, i32_w]
                                    rfl
                                  refine pure_ (i := 9) (N := some 100) (v := ?_) (a' := ?_) #[true, true, true, true, true, true, true, true, true, true, false, false, false, false, false] rfl rfl (any_of HT_.out (by kernel_rfl)) (fun _ _ _ h => h) (Or.inl ⟨by rfl, ?_⟩) ?_ ?_
                                  rotate_left
                                  · intro w'
                                    go_simp
                                    with_reducible rfl
                                  rotate_left
                                  · simp only [Act.put, List.setIfInBounds_toArray, List.set_cons_zero, List.set_cons_succ, i64_w, i32_w]
                                    rfl
                                  refine pure_ (i := 10) (N := some 101) (v := ?_) (a' := ?_) #[true, true, true, true, true, true, true, true, true, true, true, false, false, false, false] rfl rfl (any_of HT_.out (by kernel_rfl)) (fun _ _ _ h => h) (Or.inl ⟨by rfl, ?_⟩) ?_ ?_
                                  rotate_left
                                  · intro w'
                                    go_simp
                                    with_reducible rfl
                                  rotate_left
                                  · simp only [Act.put, List.setIfInBounds_toArray, List.set_cons_zero, List.set_cons_succ, i64_w, i32_w]
                                    rfl
                                  refine pure_ (i := 11) (N := some 102) (v := ?_) (a' := ?_) #[true, true, true, true, true, true, true, true, true, true, true, true, false, false, false] rfl rfl (any_of HT_.out (by kernel_rfl)) (fun _ _ _ h => h) (Or.inl ⟨by rfl, ?_⟩) ?_ ?_
                                  rotate_left
                                  · intro w'
                                    go_simp
                                    with_reducible rfl
                                  rotate_left
                                  · simp only [Act.put, List.setIfInBounds_toArray, List.set_cons_zero, List.set_cons_succ, i64_w, i32_w]
                                    rfl
                                  refine pure_ (i := 12) (N := some 103) (v := ?_) (a' := ?_) #[true, true, true, true, true, true, true, true, true, true, true, true, true, false, false] rfl rfl (any_of HT_.out (by kernel_rfl)) (fun _ _ _ h => h) (Or.inl ⟨by rfl, ?_⟩) ?_ ?_
                                  rotate_left
                                  · intro w'
                                    go_simp
                                    with_reducible rfl
                                  rotate_left
                                  · simp only [Act.put, List.setIfInBounds_toArray, List.set_cons_zero, List.set_cons_succ, i64_w, i32_w]
                                    rfl
                                  refine pure_ (i := 13) (N := some 104) (v := ?_) (a' := ?_) #[true, true, true, true, true, true, true, true, true, true, true, true, true, true, false] rfl rfl (any_of HT_.out (by kernel_rfl)) (fun _ _ _ h => h) (Or.inl ⟨by rfl, ?_⟩) ?_ ?_
                                  rotate_left
                                  · intro w'
                                    go_simp
                                    with_reducible rfl
                                  rotate_left
                                  · simp only [Act.put, List.setIfInBounds_toArray, List.set_cons_zero, List.set_cons_succ, i64_w, i32_w]
                                    rfl
                                  refine pure_ (i := 14) (N := some 105) (v := ?_) (a' := ?_) #[true, true, true, true, true, true, true, true, true, true, true, true, true, true, true] rfl rfl (any_of HT_.out (by kernel_rfl)) (fun _ _ _ h => h) (Or.inl ⟨by rfl, ?_⟩) ?_ ?_
                                  rotate_left
                                  · intro w'
                                    go_simp
                                    with_reducible rfl
                                  rotate_left
                                  · simp only [Act.put, List.setIfInBounds_toArray, List.set_cons_zero, List.set_cons_succ, i64_w, i32_w]
                                    rfl
                                  refine done_ (done_of HT_.out (by kernel_rfl)) ?_
                                  try go_wp2
                                  go_ret
                                  exact ⟨by first | rfl | (simp [errW_none, errW_some] <;> rfl) | (simp [*, errW_none, errW_some] <;> rfl) | (simp [errW_none, errW_some]; generalize ByteArray.toList _ = l_; cases l_ <;> rfl), by repeat (first | (with_reducible first | exact HB.out | apply below_alloc | apply pw_below_drewN | apply below_drew1 | refine below_set ?_ GE359.out) | exact HB.out)⟩
                                · rw [if_neg c47] at H
                                  have c47b0 : decide (t357 < 1) = false := decide_eq_false c47
                                  clear c47
                                  have H' := Aside0.mk H
                                  clear H
                                  obtain ⟨Ao56, co56, eo56⟩ := Kd.R_slice HO_9.out
                                  subst eo56
                                  obtain ⟨Ao57, co57, eo57⟩ := Kd.R_slice HO_8.out
                                  subst eo57
                                  have q58 : (x11_3 : Int) ≤ ((x8_2.length : Int) : Int) := of_decide_eq_true (by first | (with_reducible assumption) | assumption)
                                  obtain ⟨i058, hi058, _, hsz58, _⟩ := info_parts info5
                                  have hroom58 : x8_2.length ≤ co57 := (Kd.R_reads' HO_8.out).2.1
                                  have hC58 : Kd.C (Kd.int .u8) _ Ao57 x8_2.length x8_2 := (Kd.R_reads' HO_8.out).2.2
                                  have q058 : (0 : Int) ≤ (x11_3 : Int) := of_decide_eq_true (by first | (with_reducible assumption) | assumption)
                                  have hcut58 := cut_from (P := Try.prog) 30 5 .i64 Try.underlying30 hi058 1 hsz58 Ao57 x8_2.length co57 x11_3 q058 q58
                                  have hr58 := Kd.C_drop (m := (x11_3 : Int).toNat) (c := co57) hC58 (by omega) hroom58
                                  obtain ⟨A58, hA58⟩ : ∃ A1, A1 = (if co57 = (x11_3 : Int).toNat then Ao57 else (Ao57 : Option Addr).map (·.add ((x11_3 : Int).toNat * 1))) := ⟨_, rfl⟩
                                  obtain ⟨c58, hc58⟩ : ∃ c1, c1 = co57 - (x11_3 : Int).toNat := ⟨_, rfl⟩
                                  have hy58 : y348.length = x8_2.length - (x11_3 : Int).toNat := (by rw [Ny348.out, List.length_drop] <;> omega)
                                  rw [show (x8_2).drop (x11_3 : Int).toNat = y348 from Ny348.out.symm] at hr58
                                  replace hr58 : Kd.C (Kd.int .u8) _ A58 y348.length y348 := (by rw [hA58]; exact hr58)
                                  rw [← hy58, ← hA58, ← hc58] at hcut58
                                  have HR351 := Aside0.mk hr58
                                  have HC351 := Aside0.mk (show y348.length ≤ c58 from by rw [hy58, hc58]; exact Nat.sub_le_sub_right hroom58 _)
                                  clear hr58 hC58 hroom58 hi058 hsz58 hc58
                                  have KY58 := Aside0.mk hy58
                                  have KA58 := Aside0.mk hA58
                                  clear hy58 hA58
                                  have KL58 := Aside0.mk (show (x11_3 : Int).toNat ≤ x8_2.length from by omega)
                                  replace q58 := eq_true q58
                                  try go_wp2_with (first | ((with_reducible refine gate_callee (f := 25) rfl ?_); refine goesL_ (some 87) rfl rfl Try.func25 (by kernel_rfl) rfl #[.slice A58 y348.length c58] rfl (by (try simp only [List.map_toArray, List.map_cons, List.map_nil]); first | done | rfl | (simp only [List.length_drop, List.length_take]; rfl)) ?_; (with_reducible refine (record_Get.calls k3 _ _ y348 t352 t353 t354 t355 t356 t357 t358 _ ?side1 ?side2 A34.out).mono ?_); (case side1 => repeat (first | exact (by repeat (first | (with_reducible exact HR351.out) | (with_reducible refine Kd.C_alloc ?_ _) | (with_reducible refine Kd.C_drewN ?_ _) | (with_reducible refine Kd.C_drew ?_) | exact HR351.out)) | (with_reducible refine Kd.C_alloc ?_ _) | (with_reducible refine Kd.C_drewN ?_ _) | (with_reducible refine Kd.C_drew ?_))); (case side2 => exact HC351.out); rintro e w59 ⟨rfl, hb⟩; refine ⟨_, rfl, ?_⟩; have n0_ := Aside0.mk (Kd.R_below (by (with_reducible repeat (first | apply Kd.R_alloc | apply Kd.R_drewN | apply Kd.R_drew)); exact HO_8.out) hb); have n1_ := Aside0.mk (Kd.R_below (by (with_reducible repeat (first | apply Kd.R_alloc | apply Kd.R_drewN | apply Kd.R_drew)); exact HO_9.out) hb); have n2_ := Aside0.mk (Kd.C_below (by repeat (first | (with_reducible exact HR351.out) | (with_reducible refine Kd.C_alloc ?_ _) | (with_reducible refine Kd.C_drewN ?_ _) | (with_reducible refine Kd.C_drew ?_) | exact HR351.out)) hb); have n3_ := Aside0.mk (below_step (by repeat (first | (with_reducible first | exact HB.out | apply below_alloc | apply pw_below_drewN | apply below_drew1) | exact HB.out)) hb); clear HO_8; clear HO_9; clear HR351; clear HB; have HO_8 := n0_; have HO_9 := n1_; have HR351 := n2_; have HB := n3_; clear n0_ n1_ n2_ n3_; (try clear hb); (try clear hb2); (try clear hk); (try clear hi)) | ((with_reducible refine gate_dst (N := 13) rfl ?_); (try (refine gate_guard (by rfl) ?_; dsimp only)); refine box_event ?hg (N := 13) ?hd (cs := #[.int .i64 0, .int .i64 0, .string (⟨#[]⟩ : ByteArray), .string (⟨#[]⟩ : ByteArray), .bool false]) (t := 25) ?hr ?_; (case hd => rfl); (case hg => rfl); (case hr => first | (go_simp; done) | (go_simp; rfl)); intro gb359 hg w60 hbox hb; have n0_ := Aside0.mk (Kd.R_below (by (with_reducible repeat (first | apply Kd.R_alloc | apply Kd.R_drewN | apply Kd.R_drew)); exact HO_8.out) hb); have n1_ := Aside0.mk (Kd.R_below (Kd.R_elderB (by (with_reducible repeat (first | apply Kd.R_alloc | apply Kd.R_drewN | apply Kd.R_drew)); exact HO_9.out) gb359 (Nat.le_of_eq hg.symm)) hb); have n2_ := Aside0.mk (Kd.C_below (by repeat (first | (with_reducible exact HR351.out) | (with_reducible refine Kd.C_alloc ?_ _) | (with_reducible refine Kd.C_drewN ?_ _) | (with_reducible refine Kd.C_drew ?_) | exact HR351.out)) hb); have n3_ := Aside0.mk (below_step (by repeat (first | (with_reducible first | exact HB.out | apply below_alloc | apply pw_below_drewN | apply below_drew1) | exact HB.out)) hb); have n4_ := Aside0.mk (hbox); have n5_ := Aside0.mk ((by rw [hg]; exact (below_size (by repeat (first | (with_reducible first | exact HB.out | apply below_alloc | apply pw_below_drewN | apply below_drew1) | exact HB.out))) : w.heap.size ≤ gb359)); have n6_ := Aside0.mk ((by rw [hg]; exact (below_size (by repeat (first | (with_reducible first | exact HB.out | apply below_alloc | apply pw_below_drewN | apply below_drew1) | exact HB.out))) : w.heap.size ≤ gb359)); clear HO_8; clear HO_9; clear HR351; clear HB; have HO_8 := n0_; have HO_9 := n1_; have HR351 := n2_; have HB := n3_; have BK359 := n4_; have GW359 := n5_; have GE359 := n6_; clear n0_ n1_ n2_ n3_ n4_ n5_ n6_; clear hb hbox hg; have hcz61_0 : w60.cell? ⟨gb359, 0, none⟩ = some (.int .i64 0) := (blk_cell BK359.out 0).trans rfl; have hcz61_1 : w60.cell? ⟨gb359, 1, none⟩ = some (.int .i64 0) := (blk_cell BK359.out 1).trans rfl; have hcz61_2 : w60.cell? ⟨gb359, 2, none⟩ = some (.string (⟨#[]⟩ : ByteArray)) := (blk_cell BK359.out 2).trans rfl; have hcz61_3 : w60.cell? ⟨gb359, 3, none⟩ = some (.string (⟨#[]⟩ : ByteArray)) := (blk_cell BK359.out 3).trans rfl; have hcz61_4 : w60.cell? ⟨gb359, 4, none⟩ = some (.bool false) := (blk_cell BK359.out 4).trans rfl; have hfz61_0 := blk_frozen BK359.out 0; have hfz61_1 := blk_frozen BK359.out 1; have hfz61_2 := blk_frozen BK359.out 2; have hfz61_3 := blk_frozen BK359.out 3; have hfz61_4 := blk_frozen BK359.out 4))
                                  have n0_ : Aside0 (Kd.R (Kd.int .u8) 5 (((((w60.setCell ⟨gb359, 0, none⟩ (.int .i64 t352)).setCell ⟨gb359, 1, none⟩ (.int .i64 t353)).setCell ⟨gb359, 2, none⟩ (.string t354)).setCell ⟨gb359, 3, none⟩ (.string t355)).setCell ⟨gb359, 4, none⟩ (.bool t356)) w.heap.size (fun _ => True) (.slice Ao57 x8_2.length co57) x8_2) := ⟨by (with_reducible repeat (first | apply Kd.R_alloc | apply Kd.R_drewN | apply Kd.R_drew)); exact Kd.R_mono (Kd.R_far (p := ⟨gb359, 4, none⟩) (Kd.R_far (p := ⟨gb359, 3, none⟩) (Kd.R_far (p := ⟨gb359, 2, none⟩) (Kd.R_far (p := ⟨gb359, 1, none⟩) (Kd.R_far (p := ⟨gb359, 0, none⟩) (Kd.R_types HO_8.out BK359.out (by decide)) (fun _ hk => hk.2) (.int .i64 t352)) (fun _ hk => hk.2) (.int .i64 t353)) (fun _ hk => hk.2) (.string t354)) (fun _ hk => hk.2) (.string t355)) (fun _ hk => hk.2) (.bool t356)) (fun _ hk => trivial)⟩
                                  have n1_ : Aside0 (Kd.R k25 25 (((((w60.setCell ⟨gb359, 0, none⟩ (.int .i64 t352)).setCell ⟨gb359, 1, none⟩ (.int .i64 t353)).setCell ⟨gb359, 2, none⟩ (.string t354)).setCell ⟨gb359, 3, none⟩ (.string t355)).setCell ⟨gb359, 4, none⟩ (.bool t356)) w.heap.size (fun k_ => k_ ≠ gb359) (.slice Ao56 x9_2.length co56) x9_2) := ⟨by (with_reducible repeat (first | apply Kd.R_alloc | apply Kd.R_drewN | apply Kd.R_drew)); exact Kd.R_mono (Kd.R_far (p := ⟨gb359, 4, none⟩) (Kd.R_far (p := ⟨gb359, 3, none⟩) (Kd.R_far (p := ⟨gb359, 2, none⟩) (Kd.R_far (p := ⟨gb359, 1, none⟩) (Kd.R_far (p := ⟨gb359, 0, none⟩) (Kd.R_mono HO_9.out (fun k_ hk => (⟨hk, hk.2⟩ : _ ∧ k_ ≠ gb359))) (fun _ hk => hk.2) (.int .i64 t352)) (fun _ hk => hk.2) (.int .i64 t353)) (fun _ hk => hk.2) (.string t354)) (fun _ hk => hk.2) (.string t355)) (fun _ hk => hk.2) (.bool t356)) (fun _ hk => hk.1.2)⟩
                                  have n2_ : Aside0 ((((((w60.setCell ⟨gb359, 0, none⟩ (.int .i64 t352)).setCell ⟨gb359, 1, none⟩ (.int .i64 t353)).setCell ⟨gb359, 2, none⟩ (.string t354)).setCell ⟨gb359, 3, none⟩ (.string t355)).setCell ⟨gb359, 4, none⟩ (.bool t356)).heap[gb359]? = some (.cells #[.int .i64 t352, .int .i64 t353, .string t354, .string t355, .bool t356] 25 (0, 0))) := ⟨by (with_reducible repeat (first | refine blk_drewN ?_ _ | refine blk_drew ?_ | refine blk_alloc ?_ _)); refine blk_put (cs := #[.int .i64 t352, .int .i64 t353, .string t354, .string t355, .bool false]) ?_ 4 _ rfl; (with_reducible repeat (first | refine blk_drewN ?_ _ | refine blk_drew ?_ | refine blk_alloc ?_ _)); refine blk_put (cs := #[.int .i64 t352, .int .i64 t353, .string t354, .string (⟨#[]⟩ : ByteArray), .bool false]) ?_ 3 _ rfl; (with_reducible repeat (first | refine blk_drewN ?_ _ | refine blk_drew ?_ | refine blk_alloc ?_ _)); refine blk_put (cs := #[.int .i64 t352, .int .i64 t353, .string (⟨#[]⟩ : ByteArray), .string (⟨#[]⟩ : ByteArray), .bool false]) ?_ 2 _ rfl; (with_reducible repeat (first | refine blk_drewN ?_ _ | refine blk_drew ?_ | refine blk_alloc ?_ _)); refine blk_put (cs := #[.int .i64 t352, .int .i64 0, .string (⟨#[]⟩ : ByteArray), .string (⟨#[]⟩ : ByteArray), .bool false]) ?_ 1 _ rfl; (with_reducible repeat (first | refine blk_drewN ?_ _ | refine blk_drew ?_ | refine blk_alloc ?_ _)); refine blk_put (cs := #[.int .i64 0, .int .i64 0, .string (⟨#[]⟩ : ByteArray), .string (⟨#[]⟩ : ByteArray), .bool false]) ?_ 0 _ rfl; (with_reducible repeat (first | refine blk_drewN ?_ _ | refine blk_drew ?_ | refine blk_alloc ?_ _)); exact BK359.out⟩
                                  have n3_ : Aside0 (Below w.heap.size w (((((w60.setCell ⟨gb359, 0, none⟩ (.int .i64 t352)).setCell ⟨gb359, 1, none⟩ (.int .i64 t353)).setCell ⟨gb359, 2, none⟩ (.string t354)).setCell ⟨gb359, 3, none⟩ (.string t355)).setCell ⟨gb359, 4, none⟩ (.bool t356))) := ⟨by repeat (first | (with_reducible first | exact HB.out | apply below_alloc | apply pw_below_drewN | apply below_drew1 | refine below_set ?_ GE359.out) | exact HB.out)⟩
                                  (try clear HO_8)
                                  (try clear HO_9)
                                  (try clear BK359)
                                  (try clear HB)
                                  generalize (((((w60.setCell ⟨gb359, 0, none⟩ (.int .i64 t352)).setCell ⟨gb359, 1, none⟩ (.int .i64 t353)).setCell ⟨gb359, 2, none⟩ (.string t354)).setCell ⟨gb359, 3, none⟩ (.string t355)).setCell ⟨gb359, 4, none⟩ (.bool t356)) = w62 at n0_ n1_ n2_ n3_ ⊢
                                  have HO_8 := n0_
                                  have HO_9 := n1_
                                  have BK359 := n2_
                                  have HB := n3_
                                  clear n0_ n1_ n2_ n3_
                                  have n0_ := Aside0.mk (Kd.R_drew HO_8.out)
                                  have n1_ := Aside0.mk (Kd.R_drew HO_9.out)
                                  have n2_ := Aside0.mk (blk_drew BK359.out)
                                  have n3_ := Aside0.mk (below_drew1 HB.out)
                                  clear HO_8
                                  clear HO_9
                                  clear BK359
                                  clear HB
                                  have HO_8 := n0_
                                  have HO_9 := n1_
                                  have BK359 := n2_
                                  have HB := n3_
                                  clear n0_ n1_ n2_ n3_
                                  have p361 : 0 ≤ (x12_3 : Int) := of_decide_eq_true (by first | (with_reducible assumption) | assumption)
                                  have q361 : x12_3 < (x9_2.length : Int) := of_decide_eq_true (by first | (with_reducible assumption) | assumption)
                                  obtain ⟨ad361, e361, hx361_0, hx361_1, hx361_2, hx361_3, hx361_4⟩ := at_T25 (Kd.R_reads' HO_9.out).2.2 x12_3 p361 q361
                                  cases e361
                                  replace p361 := eq_true p361
                                  replace q361 := eq_true q361
                                  refine start_ (n := 15) (S := fun w' => w'.cell? ⟨gb359, 0, none⟩ = some (.int .i64 t352) ∧ w'.cell? ⟨gb359, 1, none⟩ = some (.int .i64 t353) ∧ w'.cell? ⟨gb359, 2, none⟩ = some (.string t354) ∧ w'.cell? ⟨gb359, 3, none⟩ = some (.string t355) ∧ w'.cell? ⟨gb359, 4, none⟩ = some (.bool t356) ∧ w'.cell? (ad361.add ((x12_3).toNat * 5)) = some (.int .i64 ((rd_T25 x9_2 x12_3).f0)) ∧ w'.cell? ⟨(ad361.add ((x12_3).toNat * 5)).block, (ad361.add ((x12_3).toNat * 5)).off + 1, none⟩ = some (.int .i64 ((rd_T25 x9_2 x12_3).f1)) ∧ w'.cell? ⟨(ad361.add ((x12_3).toNat * 5)).block, (ad361.add ((x12_3).toNat * 5)).off + 2, none⟩ = some (.string ((rd_T25 x9_2 x12_3).f2)) ∧ w'.cell? ⟨(ad361.add ((x12_3).toNat * 5)).block, (ad361.add ((x12_3).toNat * 5)).off + 3, none⟩ = some (.string ((rd_T25 x9_2 x12_3).f3)) ∧ w'.cell? ⟨(ad361.add ((x12_3).toNat * 5)).block, (ad361.add ((x12_3).toNat * 5)).off + 4, none⟩ = some (.bool ((rd_T25 x9_2 x12_3).f4))) (ds := []) #[false, false, false, false, false, false, false, false, false, false, false, false, false, false, false] (by kernel_rfl) rfl rfl ⟨(blk_cell BK359.out 0).trans rfl, (blk_cell BK359.out 1).trans rfl, (blk_cell BK359.out 2).trans rfl, (blk_cell BK359.out 3).trans rfl, (blk_cell BK359.out 4).trans rfl, hx361_0, hx361_1, hx361_2, hx361_3, hx361_4⟩ (fun hHeld => ?_); refine with_tabW cooperagelaw4_RecordRow.tab21 cooperagelaw4_RecordRow.bits21 (fun HT_ HW_ => ?_)
                                  generalize w62.drew = w63 at HO_8 HO_9 BK359 HB hx361_0 hx361_1 hx361_2 hx361_3 hx361_4 hHeld ⊢
                                  refine pure_ (i := 0) (N := some 91) (v := ?_) (a' := ?_) #[true, false, false, false, false, false, false, false, false, false, false, false, false, false, false] rfl rfl (any_of HT_.out (by kernel_rfl)) (fun _ _ _ h => h) (Or.inl ⟨by rfl, ?_⟩) ?_ ?_
                                  rotate_left
                                  · intro w'
                                    go_simp
                                    with_reducible rfl
                                  rotate_left
                                  · simp only [Act.put, List.setIfInBounds_toArray, List.set_cons_zero, List.set_cons_succ, i64_w, i32_w]
                                    rfl
                                  refine one_ (i := 1) (N := some 92) #[true, true, false, false, false, false, false, false, false, false, false, false, false, false, false] rfl rfl (one_of HT_.out (by kernel_rfl)) (by decide) (fun K hK => ?_)
                                  refine goes_ Try.func27 (by kernel_rfl) rfl #[.int .i64 t358] (by rfl) rfl rfl (by (try simp only [List.map_toArray, List.map_cons, List.map_nil]); first | done | rfl | (simp only [List.length_drop, List.length_take]; rfl)) ?_
                                  with_reducible refine (cooperagelaw4_num.calls t358 t360 _ A35.out).mono ?_
                                  rintro e w' ⟨rfl, ⟨nd, rfl⟩⟩
                                  refine ⟨_, rfl, ?_⟩
                                  refine hK.out _ _ ⟨(blk_cell BK359.out 0).trans rfl, (blk_cell BK359.out 1).trans rfl, (blk_cell BK359.out 2).trans rfl, (blk_cell BK359.out 3).trans rfl, (blk_cell BK359.out 4).trans rfl, hHeld.2.2.2.2.2.1, hHeld.2.2.2.2.2.2.1, hHeld.2.2.2.2.2.2.2.1, hHeld.2.2.2.2.2.2.2.2.1, hHeld.2.2.2.2.2.2.2.2.2⟩ (fun hHeld => ?_)
                                  clear hK K
                                  refine norm_ (a' := ?_) ?_ ?_
                                  rotate_left
                                  · show Act.put _ (some 92) _ = _
                                    simp only [Act.put, List.setIfInBounds_toArray, List.set_cons_zero, List.set_cons_succ, i64_w, i32_w]
                                    rfl
                                  refine pure_ (i := 2) (N := some 93) (v := ?_) (a' := ?_) #[true, true, true, false, false, false, false, false, false, false, false, false, false, false, false] rfl rfl (any_of HT_.out (by kernel_rfl)) (fun _ _ _ h => h) (Or.inl ⟨by rfl, ?_⟩) ?_ ?_
                                  rotate_left
                                  · intro w'
                                    go_simp
                                    with_reducible rfl
                                  rotate_left
                                  · simp only [Act.put, List.setIfInBounds_toArray, List.set_cons_zero, List.set_cons_succ, i64_w, i32_w]
                                    rfl
                                  refine pure_ (i := 3) (N := some 94) (v := ?_) (a' := ?_) #[true, true, true, true, false, false, false, false, false, false, false, false, false, false, false] rfl rfl (any_of HT_.out (by kernel_rfl)) (fun _ _ _ h => h) (Or.inl ⟨by rfl, ?_⟩) ?_ ?_
                                  rotate_left
                                  · intro w'
                                    go_simp
                                    with_reducible rfl
                                  rotate_left
                                  · simp only [Act.put, List.setIfInBounds_toArray, List.set_cons_zero, List.set_cons_succ, i64_w, i32_w]
                                    rfl
                                  refine pure_ (i := 5) (N := some 96) (v := ?_) (a' := ?_) #[true, true, true, true, false, true, false, false, false, false, false, false, false, false, false] rfl rfl (any_of HT_.out (by kernel_rfl)) (fun _ _ _ h => h) (Or.inl ⟨by rfl, ?_⟩) ?_ ?_
                                  rotate_left
                                  · intro w'
                                    go_simp
                                    with_reducible rfl
                                  rotate_left
                                  · simp only [Act.put, List.setIfInBounds_toArray, List.set_cons_zero, List.set_cons_succ, i64_w, i32_w]
                                    rfl
                                  refine pure_ (i := 6) (N := some 97) (v := ?_) (a' := ?_) #[true, true, true, true, false, true, true, false, false, false, false, false, false, false, false] rfl rfl (any_of HT_.out (by kernel_rfl)) (fun _ _ _ h => h) (Or.inl ⟨by rfl, ?_⟩) ?_ ?_
                                  rotate_left
                                  · intro w'
                                    go_simp
                                    with_reducible rfl
                                  rotate_left
                                  · simp only [Act.put, List.setIfInBounds_toArray, List.set_cons_zero, List.set_cons_succ, i64_w, i32_w]
                                    rfl
                                  refine pure_ (i := 7) (N := some 98) (v := ?_) (a' := ?_) #[true, true, true, true, false, true, true, true, false, false, false, false, false, false, false] rfl rfl (any_of HT_.out (by kernel_rfl)) (fun _ _ _ h => h) (Or.inl ⟨by rfl, ?_⟩) ?_ ?_
                                  rotate_left
                                  · intro w'
                                    go_simp
                                    with_reducible rfl
                                  rotate_left
                                  · simp only [Act.put, List.setIfInBounds_toArray, List.set_cons_zero, List.set_cons_succ, i64_w, i32_w]
                                    rfl
                                  refine take_ (i := 4) (N := some 95) (v := ?_) (a' := ?_) #[true, true, true, true, true, true, true, true, false, false, false, false, false, false, false] rfl rfl (take_ofW HT_.out HW_.out (by kernel_rfl)) (fun _ _ _ h => h) (Or.inl ⟨by rfl, ?_⟩) hHeld ?_ ?_
                                  rotate_left
                                  · rintro w' ⟨s0, s1, s2, s3, s4, s5, s6, s7, s8, s9⟩
                                    go_simp
                                    with_reducible rfl
                                  rotate_left
                                  · simp only [Act.put, List.setIfInBounds_toArray, List.set_cons_zero, List.set_cons_succ, i64_w, i32_w]
                                    rfl
                                  refine take_ (i := 8) (N := some 99) (v := ?_) (a' := ?_) #[true, true, true, true, true, true, true, true, true, false, false, false, false, false, false] rfl rfl (take_ofW HT_.out HW_.out (by kernel_rfl)) (fun _ _ _ h => h) (Or.inl ⟨by rfl, ?_⟩) hHeld ?_ ?_
                                  rotate_left
                                  · rintro w' ⟨s0, s1, s2, s3, s4, s5, s6, s7, s8, s9⟩
                                    go_simp
                                    with_reducible rfl
                                  rotate_left
                                  · simp only [Act.put, List.setIfInBounds_toArray, List.set_cons_zero, List.set_cons_succ, i64_w, i32_w]
                                    rfl
                                  refine pure_ (i := 9) (N := some 100) (v := ?_) (a' := ?_) #[true, true, true, true, true, true, true, true, true, true, false, false, false, false, false] rfl rfl (any_of HT_.out (by kernel_rfl)) (fun _ _ _ h => h) (Or.inl ⟨by rfl, ?_⟩) ?_ ?_
                                  rotate_left
                                  · intro w'
                                    go_simp
                                    with_reducible rfl
                                  rotate_left
                                  · simp only [Act.put, List.setIfInBounds_toArray, List.set_cons_zero, List.set_cons_succ, i64_w, i32_w]
                                    rfl
                                  refine pure_ (i := 10) (N := some 101) (v := ?_) (a' := ?_) #[true, true, true, true, true, true, true, true, true, true, true, false, false, false, false] rfl rfl (any_of HT_.out (by kernel_rfl)) (fun _ _ _ h => h) (Or.inl ⟨by rfl, ?_⟩) ?_ ?_
                                  rotate_left
                                  · intro w'
                                    go_simp
                                    with_reducible rfl
                                  rotate_left
                                  · simp only [Act.put, List.setIfInBounds_toArray, List.set_cons_zero, List.set_cons_succ, i64_w, i32_w]
                                    rfl
                                  refine pure_ (i := 11) (N := some 102) (v := ?_) (a' := ?_) #[true, true, true, true, true, true, true, true, true, true, true, true, false, false, false] rfl rfl (any_of HT_.out (by kernel_rfl)) (fun _ _ _ h => h) (Or.inl ⟨by rfl, ?_⟩) ?_ ?_
                                  rotate_left
                                  · intro w'
                                    go_simp
                                    with_reducible rfl
                                  rotate_left
                                  · simp only [Act.put, List.setIfInBounds_toArray, List.set_cons_zero, List.set_cons_succ, i64_w, i32_w]
                                    rfl
                                  refine pure_ (i := 12) (N := some 103) (v := ?_) (a' := ?_) #[true, true, true, true, true, true, true, true, true, true, true, true, true, false, false] rfl rfl (any_of HT_.out (by kernel_rfl)) (fun _ _ _ h => h) (Or.inl ⟨by rfl, ?_⟩) ?_ ?_
                                  rotate_left
                                  · intro w'
                                    go_simp
                                    with_reducible rfl
                                  rotate_left
                                  · simp only [Act.put, List.setIfInBounds_toArray, List.set_cons_zero, List.set_cons_succ, i64_w, i32_w]
                                    rfl
                                  refine pure_ (i := 13) (N := some 104) (v := ?_) (a' := ?_) #[true, true, true, true, true, true, true, true, true, true, true, true, true, true, false] rfl rfl (any_of HT_.out (by kernel_rfl)) (fun _ _ _ h => h) (Or.inl ⟨by rfl, ?_⟩) ?_ ?_
                                  rotate_left
                                  · intro w'
                                    go_simp
                                    with_reducible rfl
                                  rotate_left
                                  · simp only [Act.put, List.setIfInBounds_toArray, List.set_cons_zero, List.set_cons_succ, i64_w, i32_w]
                                    rfl
                                  refine pure_ (i := 14) (N := some 105) (v := ?_) (a' := ?_) #[true, true, true, true, true, true, true, true, true, true, true, true, true, true, true] rfl rfl (any_of HT_.out (by kernel_rfl)) (fun _ _ _ h => h) (Or.inl ⟨by rfl, ?_⟩) ?_ ?_
                                  rotate_left
                                  · intro w'
                                    go_simp
                                    with_reducible rfl
                                  rotate_left
                                  · simp only [Act.put, List.setIfInBounds_toArray, List.set_cons_zero, List.set_cons_succ, i64_w, i32_w]
                                    rfl
                                  refine done_ (done_of HT_.out (by kernel_rfl)) ?_
                                  try go_wp2
                                  go_roundg k3
                                  case measure => have := HJ4.out; have := HK2.out; have := HK3.out; omega
                                  case rel => exact ⟨(wrap64 (x11_3 + t357)), (wrap64 (x12_3 + 1)), (by first | rfl | (simp; done) | (simp [*]; done)), (by first | rfl | (simp; done) | (simp [*]; done)), H', ⟨by have := HJ4.out; have := HK2.out; have := HK3.out; omega⟩, ⟨by (with_reducible repeat (first | apply Kd.R_alloc | apply Kd.R_drewN | apply Kd.R_drew)); exact HO_8.out⟩, ⟨by (with_reducible repeat (first | apply Kd.R_alloc | apply Kd.R_drewN | apply Kd.R_drew)); exact Kd.R_mono HO_9.out (fun _ hk => trivial)⟩, ⟨by repeat (first | (with_reducible first | exact HB.out | apply below_alloc | apply pw_below_drewN | apply below_drew1 | refine below_set ?_ GE359.out) | exact HB.out)⟩⟩
                            · rw [if_neg c37] at H
                              exact absurd H (by simp)
                          · rw [if_neg c36] at H
                            have c36b0 : (t360 == 0) = false := beq_eq_false_iff_ne.mpr c36
                            have c36b1 : (t360 != 0) = true := bne_iff_ne.mpr c36
                            obtain rfl := Option.some.inj H
                            obtain ⟨Ao64, co64, eo64⟩ := Kd.R_slice HO_9.out
                            subst eo64
                            obtain ⟨Ao65, co65, eo65⟩ := Kd.R_slice HO_8.out
                            subst eo65
                            have q66 : (x11_3 : Int) ≤ ((x8_2.length : Int) : Int) := of_decide_eq_true (by first | (with_reducible assumption) | assumption)
                            obtain ⟨i066, hi066, _, hsz66, _⟩ := info_parts info5
                            have hroom66 : x8_2.length ≤ co65 := (Kd.R_reads' HO_8.out).2.1
                            have hC66 : Kd.C (Kd.int .u8) _ Ao65 x8_2.length x8_2 := (Kd.R_reads' HO_8.out).2.2
                            have q066 : (0 : Int) ≤ (x11_3 : Int) := of_decide_eq_true (by first | (with_reducible assumption) | assumption)
                            have hcut66 := cut_from (P := Try.prog) 30 5 .i64 Try.underlying30 hi066 1 hsz66 Ao65 x8_2.length co65 x11_3 q066 q66
                            have hr66 := Kd.C_drop (m := (x11_3 : Int).toNat) (c := co65) hC66 (by omega) hroom66
                            obtain ⟨A66, hA66⟩ : ∃ A1, A1 = (if co65 = (x11_3 : Int).toNat then Ao65 else (Ao65 : Option Addr).map (·.add ((x11_3 : Int).toNat * 1))) := ⟨_, rfl⟩
                            obtain ⟨c66, hc66⟩ : ∃ c1, c1 = co65 - (x11_3 : Int).toNat := ⟨_, rfl⟩
                            have hy66 : y348.length = x8_2.length - (x11_3 : Int).toNat := (by rw [Ny348.out, List.length_drop] <;> omega)
                            rw [show (x8_2).drop (x11_3 : Int).toNat = y348 from Ny348.out.symm] at hr66
                            replace hr66 : Kd.C (Kd.int .u8) _ A66 y348.length y348 := (by rw [hA66]; exact hr66)
                            rw [← hy66, ← hA66, ← hc66] at hcut66
                            have HR351 := Aside0.mk hr66
                            have HC351 := Aside0.mk (show y348.length ≤ c66 from by rw [hy66, hc66]; exact Nat.sub_le_sub_right hroom66 _)
                            clear hr66 hC66 hroom66 hi066 hsz66 hc66
                            have KY66 := Aside0.mk hy66
                            have KA66 := Aside0.mk hA66
                            clear hy66 hA66
                            have KL66 := Aside0.mk (show (x11_3 : Int).toNat ≤ x8_2.length from by omega)
                            replace q66 := eq_true q66
                            try go_wp2_with (first | ((with_reducible refine gate_callee (f := 25) rfl ?_); refine goesL_ (some 87) rfl rfl Try.func25 (by kernel_rfl) rfl #[.slice A66 y348.length c66] rfl (by (try simp only [List.map_toArray, List.map_cons, List.map_nil]); first | done | rfl | (simp only [List.length_drop, List.length_take]; rfl)) ?_; (with_reducible refine (record_Get.calls k3 _ _ y348 t352 t353 t354 t355 t356 t357 t358 _ ?side1 ?side2 A34.out).mono ?_); (case side1 => repeat (first | exact (by repeat (first | (with_reducible exact HR351.out) | (with_reducible refine Kd.C_alloc ?_ _) | (with_reducible refine Kd.C_drewN ?_ _) | (with_reducible refine Kd.C_drew ?_) | exact HR351.out)) | (with_reducible refine Kd.C_alloc ?_ _) | (with_reducible refine Kd.C_drewN ?_ _) | (with_reducible refine Kd.C_drew ?_))); (case side2 => exact HC351.out); rintro e w67 ⟨rfl, hb⟩; refine ⟨_, rfl, ?_⟩; have n0_ := Aside0.mk (Kd.R_below (by (with_reducible repeat (first | apply Kd.R_alloc | apply Kd.R_drewN | apply Kd.R_drew)); exact HO_8.out) hb); have n1_ := Aside0.mk (Kd.R_below (by (with_reducible repeat (first | apply Kd.R_alloc | apply Kd.R_drewN | apply Kd.R_drew)); exact HO_9.out) hb); have n2_ := Aside0.mk (Kd.C_below (by repeat (first | (with_reducible exact HR351.out) | (with_reducible refine Kd.C_alloc ?_ _) | (with_reducible refine Kd.C_drewN ?_ _) | (with_reducible refine Kd.C_drew ?_) | exact HR351.out)) hb); have n3_ := Aside0.mk (below_step (by repeat (first | (with_reducible first | exact HB.out | apply below_alloc | apply pw_below_drewN | apply below_drew1) | exact HB.out)) hb); clear HO_8; clear HO_9; clear HR351; clear HB; have HO_8 := n0_; have HO_9 := n1_; have HR351 := n2_; have HB := n3_; clear n0_ n1_ n2_ n3_; (try clear hb); (try clear hb2); (try clear hk); (try clear hi)) | ((with_reducible refine gate_dst (N := 13) rfl ?_); (try (refine gate_guard (by rfl) ?_; dsimp only)); refine box_event ?hg (N := 13) ?hd (cs := #[.int .i64 0, .int .i64 0, .string (⟨#[]⟩ : ByteArray), .string (⟨#[]⟩ : ByteArray), .bool false]) (t := 25) ?hr ?_; (case hd => rfl); (case hg => rfl); (case hr => first | (go_simp; done) | (go_simp; rfl)); intro gb359 hg w68 hbox hb; have n0_ := Aside0.mk (Kd.R_below (by (with_reducible repeat (first | apply Kd.R_alloc | apply Kd.R_drewN | apply Kd.R_drew)); exact HO_8.out) hb); have n1_ := Aside0.mk (Kd.R_below (Kd.R_elderB (by (with_reducible repeat (first | apply Kd.R_alloc | apply Kd.R_drewN | apply Kd.R_drew)); exact HO_9.out) gb359 (Nat.le_of_eq hg.symm)) hb); have n2_ := Aside0.mk (Kd.C_below (by repeat (first | (with_reducible exact HR351.out) | (with_reducible refine Kd.C_alloc ?_ _) | (with_reducible refine Kd.C_drewN ?_ _) | (with_reducible refine Kd.C_drew ?_) | exact HR351.out)) hb); have n3_ := Aside0.mk (below_step (by repeat (first | (with_reducible first | exact HB.out | apply below_alloc | apply pw_below_drewN | apply below_drew1) | exact HB.out)) hb); have n4_ := Aside0.mk (hbox); have n5_ := Aside0.mk ((by rw [hg]; exact (below_size (by repeat (first | (with_reducible first | exact HB.out | apply below_alloc | apply pw_below_drewN | apply below_drew1) | exact HB.out))) : w.heap.size ≤ gb359)); have n6_ := Aside0.mk ((by rw [hg]; exact (below_size (by repeat (first | (with_reducible first | exact HB.out | apply below_alloc | apply pw_below_drewN | apply below_drew1) | exact HB.out))) : w.heap.size ≤ gb359)); clear HO_8; clear HO_9; clear HR351; clear HB; have HO_8 := n0_; have HO_9 := n1_; have HR351 := n2_; have HB := n3_; have BK359 := n4_; have GW359 := n5_; have GE359 := n6_; clear n0_ n1_ n2_ n3_ n4_ n5_ n6_; clear hb hbox hg; have hcz69_0 : w68.cell? ⟨gb359, 0, none⟩ = some (.int .i64 0) := (blk_cell BK359.out 0).trans rfl; have hcz69_1 : w68.cell? ⟨gb359, 1, none⟩ = some (.int .i64 0) := (blk_cell BK359.out 1).trans rfl; have hcz69_2 : w68.cell? ⟨gb359, 2, none⟩ = some (.string (⟨#[]⟩ : ByteArray)) := (blk_cell BK359.out 2).trans rfl; have hcz69_3 : w68.cell? ⟨gb359, 3, none⟩ = some (.string (⟨#[]⟩ : ByteArray)) := (blk_cell BK359.out 3).trans rfl; have hcz69_4 : w68.cell? ⟨gb359, 4, none⟩ = some (.bool false) := (blk_cell BK359.out 4).trans rfl; have hfz69_0 := blk_frozen BK359.out 0; have hfz69_1 := blk_frozen BK359.out 1; have hfz69_2 := blk_frozen BK359.out 2; have hfz69_3 := blk_frozen BK359.out 3; have hfz69_4 := blk_frozen BK359.out 4))
                            have n0_ : Aside0 (Kd.R (Kd.int .u8) 5 (((((w68.setCell ⟨gb359, 0, none⟩ (.int .i64 t352)).setCell ⟨gb359, 1, none⟩ (.int .i64 t353)).setCell ⟨gb359, 2, none⟩ (.string t354)).setCell ⟨gb359, 3, none⟩ (.string t355)).setCell ⟨gb359, 4, none⟩ (.bool t356)) w.heap.size (fun _ => True) (.slice Ao65 x8_2.length co65) x8_2) := ⟨by (with_reducible repeat (first | apply Kd.R_alloc | apply Kd.R_drewN | apply Kd.R_drew)); exact Kd.R_mono (Kd.R_far (p := ⟨gb359, 4, none⟩) (Kd.R_far (p := ⟨gb359, 3, none⟩) (Kd.R_far (p := ⟨gb359, 2, none⟩) (Kd.R_far (p := ⟨gb359, 1, none⟩) (Kd.R_far (p := ⟨gb359, 0, none⟩) (Kd.R_types HO_8.out BK359.out (by decide)) (fun _ hk => hk.2) (.int .i64 t352)) (fun _ hk => hk.2) (.int .i64 t353)) (fun _ hk => hk.2) (.string t354)) (fun _ hk => hk.2) (.string t355)) (fun _ hk => hk.2) (.bool t356)) (fun _ hk => trivial)⟩
                            have n1_ : Aside0 (Kd.R k25 25 (((((w68.setCell ⟨gb359, 0, none⟩ (.int .i64 t352)).setCell ⟨gb359, 1, none⟩ (.int .i64 t353)).setCell ⟨gb359, 2, none⟩ (.string t354)).setCell ⟨gb359, 3, none⟩ (.string t355)).setCell ⟨gb359, 4, none⟩ (.bool t356)) w.heap.size (fun k_ => k_ ≠ gb359) (.slice Ao64 x9_2.length co64) x9_2) := ⟨by (with_reducible repeat (first | apply Kd.R_alloc | apply Kd.R_drewN | apply Kd.R_drew)); exact Kd.R_mono (Kd.R_far (p := ⟨gb359, 4, none⟩) (Kd.R_far (p := ⟨gb359, 3, none⟩) (Kd.R_far (p := ⟨gb359, 2, none⟩) (Kd.R_far (p := ⟨gb359, 1, none⟩) (Kd.R_far (p := ⟨gb359, 0, none⟩) (Kd.R_mono HO_9.out (fun k_ hk => (⟨hk, hk.2⟩ : _ ∧ k_ ≠ gb359))) (fun _ hk => hk.2) (.int .i64 t352)) (fun _ hk => hk.2) (.int .i64 t353)) (fun _ hk => hk.2) (.string t354)) (fun _ hk => hk.2) (.string t355)) (fun _ hk => hk.2) (.bool t356)) (fun _ hk => hk.1.2)⟩
                            have n2_ : Aside0 ((((((w68.setCell ⟨gb359, 0, none⟩ (.int .i64 t352)).setCell ⟨gb359, 1, none⟩ (.int .i64 t353)).setCell ⟨gb359, 2, none⟩ (.string t354)).setCell ⟨gb359, 3, none⟩ (.string t355)).setCell ⟨gb359, 4, none⟩ (.bool t356)).heap[gb359]? = some (.cells #[.int .i64 t352, .int .i64 t353, .string t354, .string t355, .bool t356] 25 (0, 0))) := ⟨by (with_reducible repeat (first | refine blk_drewN ?_ _ | refine blk_drew ?_ | refine blk_alloc ?_ _)); refine blk_put (cs := #[.int .i64 t352, .int .i64 t353, .string t354, .string t355, .bool false]) ?_ 4 _ rfl; (with_reducible repeat (first | refine blk_drewN ?_ _ | refine blk_drew ?_ | refine blk_alloc ?_ _)); refine blk_put (cs := #[.int .i64 t352, .int .i64 t353, .string t354, .string (⟨#[]⟩ : ByteArray), .bool false]) ?_ 3 _ rfl; (with_reducible repeat (first | refine blk_drewN ?_ _ | refine blk_drew ?_ | refine blk_alloc ?_ _)); refine blk_put (cs := #[.int .i64 t352, .int .i64 t353, .string (⟨#[]⟩ : ByteArray), .string (⟨#[]⟩ : ByteArray), .bool false]) ?_ 2 _ rfl; (with_reducible repeat (first | refine blk_drewN ?_ _ | refine blk_drew ?_ | refine blk_alloc ?_ _)); refine blk_put (cs := #[.int .i64 t352, .int .i64 0, .string (⟨#[]⟩ : ByteArray), .string (⟨#[]⟩ : ByteArray), .bool false]) ?_ 1 _ rfl; (with_reducible repeat (first | refine blk_drewN ?_ _ | refine blk_drew ?_ | refine blk_alloc ?_ _)); refine blk_put (cs := #[.int .i64 0, .int .i64 0, .string (⟨#[]⟩ : ByteArray), .string (⟨#[]⟩ : ByteArray), .bool false]) ?_ 0 _ rfl; (with_reducible repeat (first | refine blk_drewN ?_ _ | refine blk_drew ?_ | refine blk_alloc ?_ _)); exact BK359.out⟩
                            have n3_ : Aside0 (Below w.heap.size w (((((w68.setCell ⟨gb359, 0, none⟩ (.int .i64 t352)).setCell ⟨gb359, 1, none⟩ (.int .i64 t353)).setCell ⟨gb359, 2, none⟩ (.string t354)).setCell ⟨gb359, 3, none⟩ (.string t355)).setCell ⟨gb359, 4, none⟩ (.bool t356))) := ⟨by repeat (first | (with_reducible first | exact HB.out | apply below_alloc | apply pw_below_drewN | apply below_drew1 | refine below_set ?_ GE359.out) | exact HB.out)⟩
                            (try clear HO_8)
                            (try clear HO_9)
                            (try clear BK359)
                            (try clear HB)
                            generalize (((((w68.setCell ⟨gb359, 0, none⟩ (.int .i64 t352)).setCell ⟨gb359, 1, none⟩ (.int .i64 t353)).setCell ⟨gb359, 2, none⟩ (.string t354)).setCell ⟨gb359, 3, none⟩ (.string t355)).setCell ⟨gb359, 4, none⟩ (.bool t356)) = w70 at n0_ n1_ n2_ n3_ ⊢
                            have HO_8 := n0_
                            have HO_9 := n1_
                            have BK359 := n2_
                            have HB := n3_
                            clear n0_ n1_ n2_ n3_
                            have n0_ := Aside0.mk (Kd.R_drew HO_8.out)
                            have n1_ := Aside0.mk (Kd.R_drew HO_9.out)
                            have n2_ := Aside0.mk (blk_drew BK359.out)
                            have n3_ := Aside0.mk (below_drew1 HB.out)
                            clear HO_8
                            clear HO_9
                            clear BK359
                            clear HB
                            have HO_8 := n0_
                            have HO_9 := n1_
                            have BK359 := n2_
                            have HB := n3_
                            clear n0_ n1_ n2_ n3_
                            refine start_ (n := 15) (S := fun w' => True) (ds := []) #[false, false, false, false, false, false, false, false, false, false, false, false, false, false, false] (by kernel_rfl) rfl rfl trivial (fun hHeld => ?_); refine with_tabW cooperagelaw4_RecordRow.tab21 cooperagelaw4_RecordRow.bits21 (fun HT_ HW_ => ?_)
                            generalize w70.drew = w71 at HO_8 HO_9 BK359 HB hHeld ⊢
                            refine pure_ (i := 0) (N := some 91) (v := ?_) (a' := ?_) #[true, false, false, false, false, false, false, false, false, false, false, false, false, false, false] rfl rfl (any_of HT_.out (by kernel_rfl)) (fun _ _ _ h => h) (Or.inl ⟨by rfl, ?_⟩) ?_ ?_
                            rotate_left
                            · intro w'
                              go_simp
                              with_reducible rfl
                            rotate_left
                            · simp only [Act.put, List.setIfInBounds_toArray, List.set_cons_zero, List.set_cons_succ, i64_w, i32_w]
                              rfl
                            refine one_ (i := 1) (N := some 92) #[true, true, false, false, false, false, false, false, false, false, false, false, false, false, false] rfl rfl (one_of HT_.out (by kernel_rfl)) (by decide) (fun K hK => ?_)
                            refine goes_ Try.func27 (by kernel_rfl) rfl #[.int .i64 t358] (by rfl) rfl rfl (by (try simp only [List.map_toArray, List.map_cons, List.map_nil]); first | done | rfl | (simp only [List.length_drop, List.length_take]; rfl)) ?_
                            with_reducible refine (cooperagelaw4_num.calls t358 t360 _ A35.out).mono ?_
                            rintro e w' ⟨rfl, ⟨nd, rfl⟩⟩
                            refine ⟨_, rfl, ?_⟩
                            refine hK.out _ _ trivial (fun hHeld => ?_)
                            clear hK K
                            refine norm_ (a' := ?_) ?_ ?_
                            rotate_left
                            · show Act.put _ (some 92) _ = _
                              simp only [Act.put, List.setIfInBounds_toArray, List.set_cons_zero, List.set_cons_succ, i64_w, i32_w]
                              rfl
                            refine pure_ (i := 2) (N := some 93) (v := ?_) (a' := ?_) #[true, true, true, false, false, false, false, false, false, false, false, false, false, false, false] rfl rfl (any_of HT_.out (by kernel_rfl)) (fun _ _ _ h => h) (Or.inl ⟨by rfl, ?_⟩) ?_ ?_
                            rotate_left
                            · intro w'
                              go_simp
                              with_reducible rfl
                            rotate_left
                            · simp only [Act.put, List.setIfInBounds_toArray, List.set_cons_zero, List.set_cons_succ, i64_w, i32_w]
                              rfl
                            refine pure_ (i := 3) (N := some 94) (v := ?_) (a' := ?_) #[true, true, true, true, false, false, false, false, false, false, false, false, false, false, false] rfl rfl (any_of HT_.out (by kernel_rfl)) (fun _ _ _ h => h) (Or.inl ⟨by rfl, ?_⟩) ?_ ?_
                            rotate_left
                            · intro w'
                              go_simp
                              with_reducible rfl
                            rotate_left
                            · simp only [Act.put, List.setIfInBounds_toArray, List.set_cons_zero, List.set_cons_succ, i64_w, i32_w]
                              rfl
                            refine pure_ (i := 4) (N := some 95) (v := undef) (a' := ?_) #[true, true, true, true, true, false, false, false, false, false, false, false, false, false, false] rfl rfl (any_of HT_.out (by kernel_rfl)) (fun _ _ _ h => h) (Or.inr ⟨by rfl, rfl⟩) ?_ ?_
                            rotate_left
                            · simp only [Act.put, List.setIfInBounds_toArray, List.set_cons_zero, List.set_cons_succ, i64_w, i32_w]
                              rfl
                            refine pure_ (i := 5) (N := some 96) (v := undef) (a' := ?_) #[true, true, true, true, true, true, false, false, false, false, false, false, false, false, false] rfl rfl (any_of HT_.out (by kernel_rfl)) (fun _ _ _ h => h) (Or.inr ⟨by rfl, rfl⟩) ?_ ?_
                            rotate_left
                            · simp only [Act.put, List.setIfInBounds_toArray, List.set_cons_zero, List.set_cons_succ, i64_w, i32_w]
                              rfl
                            refine pure_ (i := 6) (N := some 97) (v := undef) (a' := ?_) #[true, true, true, true, true, true, true, false, false, false, false, false, false, false, false] rfl rfl (any_of HT_.out (by kernel_rfl)) (fun _ _ _ h => h) (Or.inr ⟨by rfl, rfl⟩) ?_ ?_
                            rotate_left
                            · simp only [Act.put, List.setIfInBounds_toArray, List.set_cons_zero, List.set_cons_succ, i64_w, i32_w]
                              rfl
                            refine pure_ (i := 7) (N := some 98) (v := undef) (a' := ?_) #[true, true, true, true, true, true, true, true, false, false, false, false, false, false, false] rfl rfl (any_of HT_.out (by kernel_rfl)) (fun _ _ _ h => h) (Or.inr ⟨by rfl, rfl⟩) ?_ ?_
                            rotate_left
                            · simp only [Act.put, List.setIfInBounds_toArray, List.set_cons_zero, List.set_cons_succ, i64_w, i32_w]
                              rfl
                            refine pure_ (i := 8) (N := some 99) (v := undef) (a' := ?_) #[true, true, true, true, true, true, true, true, true, false, false, false, false, false, false] rfl rfl (any_of HT_.out (by kernel_rfl)) (fun _ _ _ h => h) (Or.inr ⟨by rfl, rfl⟩) ?_ ?_
                            rotate_left
                            · simp only [Act.put, List.setIfInBounds_toArray, List.set_cons_zero, List.set_cons_succ, i64_w, i32_w]
                              rfl
                            refine pure_ (i := 9) (N := some 100) (v := undef) (a' := ?_) #[true, true, true, true, true, true, true, true, true, true, false, false, false, false, false] rfl rfl (any_of HT_.out (by kernel_rfl)) (fun _ _ _ h => h) (Or.inr ⟨by rfl, rfl⟩) ?_ ?_
                            rotate_left
                            · simp only [Act.put, List.setIfInBounds_toArray, List.set_cons_zero, List.set_cons_succ, i64_w, i32_w]
                              rfl
                            refine pure_ (i := 10) (N := some 101) (v := ?_) (a' := ?_) #[true, true, true, true, true, true, true, true, true, true, true, false, false, false, false] rfl rfl (any_of HT_.out (by kernel_rfl)) (fun _ _ _ h => h) (Or.inl ⟨by rfl, ?_⟩) ?_ ?_
                            rotate_left
                            · intro w'
                              go_simp
                              with_reducible rfl
                            rotate_left
                            · simp only [Act.put, List.setIfInBounds_toArray, List.set_cons_zero, List.set_cons_succ, i64_w, i32_w]
                              rfl
                            refine pure_ (i := 11) (N := some 102) (v := ?_) (a' := ?_) #[true, true, true, true, true, true, true, true, true, true, true, true, false, false, false] rfl rfl (any_of HT_.out (by kernel_rfl)) (fun _ _ _ h => h) (Or.inl ⟨by rfl, ?_⟩) ?_ ?_
                            rotate_left
                            · intro w'
                              go_simp
                              with_reducible rfl
                            rotate_left
                            · simp only [Act.put, List.setIfInBounds_toArray, List.set_cons_zero, List.set_cons_succ, i64_w, i32_w]
                              rfl
                            refine pure_ (i := 12) (N := some 103) (v := undef) (a' := ?_) #[true, true, true, true, true, true, true, true, true, true, true, true, true, false, false] rfl rfl (any_of HT_.out (by kernel_rfl)) (fun _ _ _ h => h) (Or.inr ⟨by rfl, rfl⟩) ?_ ?_
                            rotate_left
                            · simp only [Act.put, List.setIfInBounds_toArray, List.set_cons_zero, List.set_cons_succ, i64_w, i32_w]
                              rfl
                            refine pure_ (i := 13) (N := some 104) (v := undef) (a' := ?_) #[true, true, true, true, true, true, true, true, true, true, true, true, true, true, false] rfl rfl (any_of HT_.out (by kernel_rfl)) (fun _ _ _ h => h) (Or.inr ⟨by rfl, rfl⟩) ?_ ?_
                            rotate_left
                            · simp only [Act.put, List.setIfInBounds_toArray, List.set_cons_zero, List.set_cons_succ, i64_w, i32_w]
                              rfl
                            refine pure_ (i := 14) (N := some 105) (v := ?_) (a' := ?_) #[true, true, true, true, true, true, true, true, true, true, true, true, true, true, true] rfl rfl (any_of HT_.out (by kernel_rfl)) (fun _ _ _ h => h) (Or.inl ⟨by rfl, ?_⟩) ?_ ?_
                            rotate_left
                            · intro w'
                              go_simp
                              with_reducible rfl
                            rotate_left
                            · simp only [Act.put, List.setIfInBounds_toArray, List.set_cons_zero, List.set_cons_succ, i64_w, i32_w]
                              rfl
                            refine done_ (done_of HT_.out (by kernel_rfl)) ?_
                            try go_wp2
                            go_ret
                            exact ⟨by first | rfl | (simp [errW_none, errW_some] <;> rfl) | (simp [*, errW_none, errW_some] <;> rfl) | (simp [errW_none, errW_some]; generalize ByteArray.toList _ = l_; cases l_ <;> rfl), by repeat (first | (with_reducible first | exact HB.out | apply below_alloc | apply pw_below_drewN | apply below_drew1 | refine below_set ?_ GE359.out) | exact HB.out)⟩
                        · rw [if_neg c33] at H
                          exact absurd H (by simp)
                      · rw [if_neg c32] at H
                        exact absurd H (by simp)
                  · rw [if_neg c28] at H
                    have c28b0 : decide (x12_3 < (x9_2.length : Int)) = false := decide_eq_false c28
                    clear c28
                    have HC72 := Aside0.mk H
                    clear H
                    obtain ⟨Ao73, co73, eo73⟩ := Kd.R_slice HO_9.out
                    subst eo73
                    go_upto_region 24 with (fail)
                    go_cut [117] (fun v117 wc => ∃ (kq : Nat) (x117_71 : Bool), v117 = .bool x117_71 ∧ Aside0 (cooperagelaw4_RecordRow.j4 kq a1 a2 x8_2 x9_2 x11_3 x117_71 = some r) ∧ Aside0 (kq ≤ k3) ∧ Aside0 (Kd.R (Kd.int .u8) 5 wc w.heap.size (fun _ => True) u8 x8_2) ∧ Aside0 (Kd.R k25 25 wc w.heap.size (fun _ => True) (.slice Ao73 x9_2.length co73) x9_2) ∧ Aside0 (Below w.heap.size w wc))
                    case first =>
                      have H := HC72.out
                      clear HC72
                      by_cases c74 : (x9_2.length : Int) = 0
                      · rw [if_pos c74] at H
                        have c74b0 : ((x9_2.length : Int) == 0) = true := beq_iff_eq.mpr c74
                        have c74b1 : ((x9_2.length : Int) != 0) = false := bne_eq_false_iff_eq.mpr c74
                        clear c74
                        (first | rw [c74b0] | (simp only [i64_w, i32_w]; rw [c74b0]) | skip)
                        have H' := Aside0.mk H
                        clear H
                        go_wp2
                        go_meet
                        case rel => exact ⟨_, (true), (by first | rfl | (simp; done) | (simp [*]; done)), H', ⟨by have := HJ4.out; have := HK2.out; have := HK3.out; first | omega | exact Nat.le_refl _⟩, ⟨by (with_reducible repeat (first | apply Kd.R_alloc | apply Kd.R_drewN | apply Kd.R_drew)); exact HO_8.out⟩, ⟨by (with_reducible repeat (first | apply Kd.R_alloc | apply Kd.R_drewN | apply Kd.R_drew)); exact HO_9.out⟩, ⟨by repeat (first | (with_reducible first | exact HB.out | apply below_alloc | apply pw_below_drewN | apply below_drew1) | exact HB.out)⟩⟩
                      · rw [if_neg c74] at H
                        have c74b0 : ((x9_2.length : Int) == 0) = false := beq_eq_false_iff_ne.mpr c74
                        have c74b1 : ((x9_2.length : Int) != 0) = true := bne_iff_ne.mpr c74
                        have c74b2 : ¬ (x9_2 = []) := fun h_ => c74 (by rw [h_]; rfl)
                        (first | rw [c74b0] | (simp only [i64_w, i32_w]; rw [c74b0]) | skip)
                        have H' := Aside0.mk H
                        clear H
                        obtain ⟨Ao75, co75, eo75⟩ := Kd.R_slice HO_8.out
                        subst eo75
                        go_wp2
                        go_meet
                        case rel => exact ⟨_, ((x11_3 != (x8_2.length : Int))), (by first | rfl | (simp; done) | (simp [*]; done)), H', ⟨by have := HJ4.out; have := HK2.out; have := HK3.out; first | omega | exact Nat.le_refl _⟩, ⟨by (with_reducible repeat (first | apply Kd.R_alloc | apply Kd.R_drewN | apply Kd.R_drew)); exact HO_8.out⟩, ⟨by (with_reducible repeat (first | apply Kd.R_alloc | apply Kd.R_drewN | apply Kd.R_drew)); exact HO_9.out⟩, ⟨by repeat (first | (with_reducible first | exact HB.out | apply below_alloc | apply pw_below_drewN | apply below_drew1) | exact HB.out)⟩⟩
                    case rest =>
                      clear HC72
                      try clear c1
                      try clear c2
                      try clear p2
                      try clear c3
                      try clear p3
                      try clear q3
                      try clear hx3
                      try clear c4
                      try clear c5
                      try clear q5
                      try clear c6
                      try clear p6
                      try clear q6
                      try clear c7
                      try clear c25
                      try clear c27
                      try clear c28
                      try clear c28b0
                      try clear c32
                      try clear c33
                      try clear c36
                      try clear c36b0
                      try clear c36b1
                      try clear p36
                      try clear q36
                      try clear hx36
                      try clear c37
                      try clear c38
                      try clear c38b0
                      try clear c47
                      try clear c47b0
                      try clear c50
                      try clear q50
                      try clear c58
                      try clear q58
                      try clear p64
                      try clear c66
                      try clear q66
                      try clear c74
                      try clear c74b0
                      try clear c74b1
                      try clear c74b2
                      try clear hcz53_0
                      try clear hcz53_1
                      try clear hcz53_2
                      try clear hcz53_3
                      try clear hcz53_4
                      try clear hcz61_0
                      try clear hcz61_1
                      try clear hcz61_2
                      try clear hcz61_3
                      try clear hcz61_4
                      try clear hcz69_0
                      try clear hcz69_1
                      try clear hcz69_2
                      try clear hcz69_3
                      try clear hcz69_4
                      try clear hfz53_0
                      try clear hfz53_1
                      try clear hfz53_2
                      try clear hfz53_3
                      try clear hfz53_4
                      try clear hfz61_0
                      try clear hfz61_1
                      try clear hfz61_2
                      try clear hfz61_3
                      try clear hfz61_4
                      try clear hfz69_0
                      try clear hfz69_1
                      try clear hfz69_2
                      try clear hfz69_3
                      try clear hfz69_4
                      try clear hx361_0
                      try clear hx361_1
                      try clear hx361_2
                      try clear hx361_3
                      try clear hx361_4
                      try clear p361
                      try clear q050
                      try clear q058
                      try clear q066
                      try clear q361
                      try clear q50
                      try clear q58
                      try clear q66
                      obtain ⟨kq, x117_71, rfl, HA, HJ71, HO_8, HO_9, HB⟩ := hcut
                      cases kq with
                      | zero => exact absurd HA.out (by simp [cooperagelaw4_RecordRow.j4])
                      | succ kj71 =>
                        have H := HA.out
                        clear HA
                        simp only [cooperagelaw4_RecordRow.j4] at H
                        by_cases c76 : x117_71 = true
                        · subst c76
                          have H1 : (some (x11_3 == (x8_2.length : Int))) = some r := by rw [if_pos rfl] at H; exact H
                          clear H
                          have H := H1
                          clear H1
                          obtain rfl := Option.some.inj H
                          obtain ⟨Ao77, co77, eo77⟩ := Kd.R_slice HO_8.out
                          subst eo77
                          go_wp2
                          go_ret
                          exact ⟨by first | rfl | (simp [errW_none, errW_some] <;> rfl) | (simp [*, errW_none, errW_some] <;> rfl) | (simp [errW_none, errW_some]; generalize ByteArray.toList _ = l_; cases l_ <;> rfl), by repeat (first | (with_reducible first | exact HB.out | apply below_alloc | apply pw_below_drewN | apply below_drew1) | exact HB.out)⟩
                        · replace c76 := Bool.eq_false_iff.mpr c76
                          subst c76
                          have H1 : (if 0 < (x9_2.length : Int) then ((cooperageref1_PutRecord.f kj71 ([] : List Int) ((rd_T25 x9_2 0).f0) ((rd_T25 x9_2 0).f1) ((rd_T25 x9_2 0).f2) ((rd_T25 x9_2 0).f3) ((rd_T25 x9_2 0).f4)).bind fun t363 => (if (t363.length : Int) = 0 then (none) else (if 0 ≤ (Int.tmod a1 (t363.length : Int)) then (if (Int.tmod a1 (t363.length : Int)) < (t363.length : Int) then (if 0 ≤ (IntKind.u64.wrap (Go.bits .and .i64 a2 7)) then ((record_Get.f kj71 (t363.set ((Int.tmod a1 (t363.length : Int)) : Int).toNat (Go.bits .xor .u8 (rd t363 (Int.tmod a1 (t363.length : Int))) (shl .u8 1 (IntKind.u64.wrap (Go.bits .and .i64 a2 7)))))).bind fun bt368 => ((cooperagelaw4_num.f bt368.2.2.2.2.2.2).bind fun t376 => (if t376 = 0 then (some (!(bt368.1 == ((rd_T25 x9_2 0).f0)) || (!(bt368.2.1 == ((rd_T25 x9_2 0).f1)) || (!(bt368.2.2.1.toList == (((rd_T25 x9_2 0).f2).toList)) || (!(bt368.2.2.2.1.toList == (((rd_T25 x9_2 0).f3).toList)) || (!(bt368.2.2.2.2.1 == ((rd_T25 x9_2 0).f4)))))))) else (some true)))) else (none)) else (none)) else (none)))) else (none)) = some r := by rw [if_neg (show ¬ (false = true) by decide)] at H; exact H
                          clear H
                          have H := H1
                          clear H1
                          by_cases c78 : 0 < (x9_2.length : Int)
                          · rw [if_pos c78] at H
                            have c78b0 : decide (0 < (x9_2.length : Int)) = true := decide_eq_true c78
                            have c78b1 : decide (0 < x9_2.length) = true := decide_eq_true (by omega)
                            clear c78
                            replace H := Option.bind_eq_some_iff.mp H
                            obtain ⟨t363, A790, H⟩ := H
                            replace H : (if (t363.length : Int) = 0 then (none) else (if 0 ≤ (Int.tmod a1 (t363.length : Int)) then (if (Int.tmod a1 (t363.length : Int)) < (t363.length : Int) then (if 0 ≤ (IntKind.u64.wrap (Go.bits .and .i64 a2 7)) then ((record_Get.f kj71 (t363.set ((Int.tmod a1 (t363.length : Int)) : Int).toNat (Go.bits .xor .u8 (rd t363 (Int.tmod a1 (t363.length : Int))) (shl .u8 1 (IntKind.u64.wrap (Go.bits .and .i64 a2 7)))))).bind fun bt368 => ((cooperagelaw4_num.f bt368.2.2.2.2.2.2).bind fun t376 => (if t376 = 0 then (some (!(bt368.1 == ((rd_T25 x9_2 0).f0)) || (!(bt368.2.1 == ((rd_T25 x9_2 0).f1)) || (!(bt368.2.2.1.toList == (((rd_T25 x9_2 0).f2).toList)) || (!(bt368.2.2.2.1.toList == (((rd_T25 x9_2 0).f3).toList)) || (!(bt368.2.2.2.2.1 == ((rd_T25 x9_2 0).f4)))))))) else (some true)))) else (none)) else (none)) else (none))) = some r := H
                            have A79 := Aside0.mk A790
                            clear A790
                            by_cases c80 : (t363.length : Int) = 0
                            · rw [if_pos c80] at H
                              exact absurd H (by simp)
                            · rw [if_neg c80] at H
                              have c80b0 : ((t363.length : Int) == 0) = false := beq_eq_false_iff_ne.mpr c80
                              have c80b1 : ((t363.length : Int) != 0) = true := bne_iff_ne.mpr c80
                              have c80b2 : ¬ (t363 = []) := fun h_ => c80 (by rw [h_]; rfl)
                              obtain ⟨ji81, hji81⟩ : ∃ j_ : Int, (Int.tmod a1 (t363.length : Int)) = j_ := ⟨_, rfl⟩
                              replace H : (if 0 ≤ (ji81) then (if (ji81) < (t363.length : Int) then (if 0 ≤ (IntKind.u64.wrap (Go.bits .and .i64 a2 7)) then ((record_Get.f kj71 (t363.set ((ji81) : Int).toNat (Go.bits .xor .u8 (rd t363 (ji81)) (shl .u8 1 (IntKind.u64.wrap (Go.bits .and .i64 a2 7)))))).bind fun bt368 => ((cooperagelaw4_num.f bt368.2.2.2.2.2.2).bind fun t376 => (if t376 = 0 then (some (!(bt368.1 == ((rd_T25 x9_2 0).f0)) || (!(bt368.2.1 == ((rd_T25 x9_2 0).f1)) || (!(bt368.2.2.1.toList == (((rd_T25 x9_2 0).f2).toList)) || (!(bt368.2.2.2.1.toList == (((rd_T25 x9_2 0).f3).toList)) || (!(bt368.2.2.2.2.1 == ((rd_T25 x9_2 0).f4)))))))) else (some true)))) else (none)) else (none)) else (none)) = some r := by first | (rw [hji81] at H; exact H) | (simp only [hji81] at H ⊢; exact H)
                              (try rw [hji81] at A79)
                              by_cases c82 : 0 ≤ (ji81)
                              · rw [if_pos c82] at H
                                have c82b0 : decide (0 ≤ (ji81)) = true := decide_eq_true c82
                                clear c82
                                by_cases c83 : (ji81) < (t363.length : Int)
                                · rw [if_pos c83] at H
                                  have c83b0 : decide ((ji81) < (t363.length : Int)) = true := decide_eq_true c83
                                  clear c83
                                  obtain ⟨ji84, hji84⟩ : ∃ j_ : Int, (IntKind.u64.wrap (Go.bits .and .i64 a2 7)) = j_ := ⟨_, rfl⟩
                                  replace H : (if 0 ≤ (ji84) then ((record_Get.f kj71 (t363.set ((ji81) : Int).toNat (Go.bits .xor .u8 (rd t363 (ji81)) (shl .u8 1 (ji84))))).bind fun bt368 => ((cooperagelaw4_num.f bt368.2.2.2.2.2.2).bind fun t376 => (if t376 = 0 then (some (!(bt368.1 == ((rd_T25 x9_2 0).f0)) || (!(bt368.2.1 == ((rd_T25 x9_2 0).f1)) || (!(bt368.2.2.1.toList == (((rd_T25 x9_2 0).f2).toList)) || (!(bt368.2.2.2.1.toList == (((rd_T25 x9_2 0).f3).toList)) || (!(bt368.2.2.2.2.1 == ((rd_T25 x9_2 0).f4)))))))) else (some true)))) else (none)) = some r := by first | (rw [hji84] at H; exact H) | (simp only [hji84] at H ⊢; exact H)
                                  (try rw [hji84] at A79)
                                  by_cases c85 : 0 ≤ (ji84)
                                  · rw [if_pos c85] at H
                                    have c85b0 := eq_true c85
                                    have c85b1 : decide (0 ≤ (ji84)) = true := decide_eq_true c85
                                    clear c85
                                    obtain ⟨ji86, hji86⟩ : ∃ j_ : Int, (shl .u8 1 (ji84)) = j_ := ⟨_, rfl⟩
                                    replace H : ((record_Get.f kj71 (t363.set ((ji81) : Int).toNat (Go.bits .xor .u8 (rd t363 (ji81)) (ji86)))).bind fun bt368 => ((cooperagelaw4_num.f bt368.2.2.2.2.2.2).bind fun t376 => (if t376 = 0 then (some (!(bt368.1 == ((rd_T25 x9_2 0).f0)) || (!(bt368.2.1 == ((rd_T25 x9_2 0).f1)) || (!(bt368.2.2.1.toList == (((rd_T25 x9_2 0).f2).toList)) || (!(bt368.2.2.2.1.toList == (((rd_T25 x9_2 0).f3).toList)) || (!(bt368.2.2.2.2.1 == ((rd_T25 x9_2 0).f4)))))))) else (some true)))) = some r := by first | (rw [hji86] at H; exact H) | (simp only [hji86] at H ⊢; exact H)
                                    (try rw [hji86] at A79)
                                    have hji86_ : (IntKind.u8.wrap (1 * 2 ^ min (ji84).toNat 8)) = ji86 := hji86
                                    have hji86z : (ji84) ≤ 8 → (IntKind.u8.wrap (1 * 2 ^ (ji84).toNat)) = ji86 := shl_small hji86
                                    have hji86u : (IntKind.u8.wrap (2 ^ min (ji84).toNat 8)) = ji86 := by have h_ := hji86_; rw [Int.one_mul] at h_; exact h_
                                    have hji86v : (ji84) ≤ 8 → (IntKind.u8.wrap (2 ^ (ji84).toNat)) = ji86 := fun hle_ => by have h_ := hji86z hle_; rw [Int.one_mul] at h_; exact h_
                                    obtain ⟨y367, hy367⟩ : ∃ y_ : List Int, y_ = (t363.set ((ji81) : Int).toNat (Go.bits .xor .u8 (rd t363 (ji81)) (ji86))) := ⟨_, rfl⟩
                                    replace H : ((record_Get.f kj71 y367).bind fun bt368 => ((cooperagelaw4_num.f bt368.2.2.2.2.2.2).bind fun t376 => (if t376 = 0 then (some (!(bt368.1 == ((rd_T25 x9_2 0).f0)) || (!(bt368.2.1 == ((rd_T25 x9_2 0).f1)) || (!(bt368.2.2.1.toList == (((rd_T25 x9_2 0).f2).toList)) || (!(bt368.2.2.2.1.toList == (((rd_T25 x9_2 0).f3).toList)) || (!(bt368.2.2.2.2.1 == ((rd_T25 x9_2 0).f4)))))))) else (some true)))) = some r := by first | (rw [hy367]; with_reducible exact H) | (have H2_ := (Option.bind_some _ _).symm.trans H; rw [hy367]; with_reducible exact H2_) | (have H2_ := (Option.bind_some _ _).symm.trans H; with_reducible exact H2_) | with_reducible exact H | (rw [hy367]; exact H) | exact H
                                    have Ny367 := Aside0.mk hy367
                                    clear hy367
                                    replace H := Option.bind_eq_some_iff.mp H
                                    obtain ⟨⟨t368, t369, t370, t371, t372, t373, t374⟩, A880, H⟩ := H
                                    replace H : ((cooperagelaw4_num.f t374).bind fun t376 => (if t376 = 0 then (some (!(t368 == ((rd_T25 x9_2 0).f0)) || (!(t369 == ((rd_T25 x9_2 0).f1)) || (!(t370.toList == (((rd_T25 x9_2 0).f2).toList)) || (!(t371.toList == (((rd_T25 x9_2 0).f3).toList)) || (!(t372 == ((rd_T25 x9_2 0).f4)))))))) else (some true))) = some r := H
                                    have A88 := Aside0.mk A880
                                    clear A880
                                    replace H := Option.bind_eq_some_iff.mp H
                                    obtain ⟨t376, A890, H⟩ := H
                                    replace H : (if t376 = 0 then (some (!(t368 == ((rd_T25 x9_2 0).f0)) || (!(t369 == ((rd_T25 x9_2 0).f1)) || (!(t370.toList == (((rd_T25 x9_2 0).f2).toList)) || (!(t371.toList == (((rd_T25 x9_2 0).f3).toList)) || (!(t372 == ((rd_T25 x9_2 0).f4)))))))) else (some true)) = some r := H
                                    have A89 := Aside0.mk A890
                                    clear A890
                                    by_cases c90 : t376 = 0
                                    · rw [if_pos c90] at H
                                      have c90b0 : (t376 == 0) = true := beq_iff_eq.mpr c90
                                      have c90b1 : (t376 != 0) = false := bne_eq_false_iff_eq.mpr c90
                                      clear c90
                                      obtain rfl := Option.some.inj H
                                      have p362 : 0 ≤ (0 : Int) := (by omega)
                                      have q362 : 0 < (x9_2.length : Int) := of_decide_eq_true (by first | (with_reducible assumption) | assumption)
                                      obtain ⟨ad362, e362, hx362_0, hx362_1, hx362_2, hx362_3, hx362_4⟩ := at_T25 (Kd.R_reads' HO_9.out).2.2 0 p362 q362
                                      cases e362
                                      have qi362 : (0 < x9_2.length) = True := eq_true (by omega)
                                      (try rw [show ((0 : Int)).toNat = 0 from rfl] at hx362_0)
                                      (try rw [show 0 * 5 = 0 from rfl] at hx362_0)
                                      (try rw [Addr.add_zero'] at hx362_0)
                                      (try rw [show ((0 : Int)).toNat = 0 from rfl] at hx362_1)
                                      (try rw [show 0 * 5 = 0 from rfl] at hx362_1)
                                      (try rw [Addr.add_zero'] at hx362_1)
                                      (try rw [show ((0 : Int)).toNat = 0 from rfl] at hx362_2)
                                      (try rw [show 0 * 5 = 0 from rfl] at hx362_2)
                                      (try rw [Addr.add_zero'] at hx362_2)
                                      (try rw [show ((0 : Int)).toNat = 0 from rfl] at hx362_3)
                                      (try rw [show 0 * 5 = 0 from rfl] at hx362_3)
                                      (try rw [Addr.add_zero'] at hx362_3)
                                      (try rw [show ((0 : Int)).toNat = 0 from rfl] at hx362_4)
                                      (try rw [show 0 * 5 = 0 from rfl] at hx362_4)
                                      (try rw [Addr.add_zero'] at hx362_4)
                                      replace p362 := eq_true p362
                                      replace q362 := eq_true q362
                                      try go_wp2_with (first | ((with_reducible refine gate_callee (f := 29) rfl ?_); refine goesL_ (some 125) rfl rfl Try.func29 (by kernel_rfl) rfl #[.slice none 0 0, .agg #[.int .i64 ((rd_T25 x9_2 0).f0), .int .i64 ((rd_T25 x9_2 0).f1), .string ((rd_T25 x9_2 0).f2), .string ((rd_T25 x9_2 0).f3), .bool ((rd_T25 x9_2 0).f4)]] rfl (by (try simp only [List.map_toArray, List.map_cons, List.map_nil]); first | done | rfl | (simp only [List.length_drop, List.length_take]; rfl)) ?_; (refine (cooperageref1_PutRecord.calls kj71 _ _ ([] : List Int) ((rd_T25 x9_2 0).f0) ((rd_T25 x9_2 0).f1) ((rd_T25 x9_2 0).f2) ((rd_T25 x9_2 0).f3) ((rd_T25 x9_2 0).f4) t363 _ ?side1 ?side2 A79.out).mono ?_); (case side1 => exact Kd.C_nil _ _); (case side2 => exact Nat.le_refl _); rintro e w91 ⟨v364, rfl, ho0, hb⟩; refine ⟨_, rfl, ?_⟩; have n0_ := Aside0.mk (Kd.R_elder' (by (with_reducible repeat (first | apply Kd.R_alloc | apply Kd.R_drewN | apply Kd.R_drew)); exact HO_8.out) (Kd.R_base ho0) hb); have n1_ := Aside0.mk (Kd.R_below (by (with_reducible repeat (first | apply Kd.R_alloc | apply Kd.R_drewN | apply Kd.R_drew)); exact HO_9.out) hb); have n2_ := Aside0.mk (Kd.R_lower (Kd.R_new' ho0 (Kd.R_lt (by (with_reducible repeat (first | apply Kd.R_alloc | apply Kd.R_drewN | apply Kd.R_drew)); exact HO_8.out))) (below_size (by repeat (first | (with_reducible first | exact HB.out | apply below_alloc | apply pw_below_drewN | apply below_drew1) | exact HB.out)))); have n3_ := Aside0.mk (below_step (by repeat (first | (with_reducible first | exact HB.out | apply below_alloc | apply pw_below_drewN | apply below_drew1) | exact HB.out)) hb); clear HO_8; clear HO_9; clear HB; have HO_8 := n0_; have HO_9 := n1_; have HO365 := n2_; have HB := n3_; clear n0_ n1_ n2_ n3_; (try clear hb); (try clear hb2); (try clear hk); (try clear hi); (try clear ho0)))
                                      have n0_ := Aside0.mk (Kd.R_drew HO_8.out)
                                      have n1_ := Aside0.mk (Kd.R_drew HO_9.out)
                                      have n2_ := Aside0.mk (Kd.R_drew HO365.out)
                                      have n3_ := Aside0.mk (below_drew1 HB.out)
                                      clear HO_8
                                      clear HO_9
                                      clear HO365
                                      clear HB
                                      have HO_8 := n0_
                                      have HO_9 := n1_
                                      have HO365 := n2_
                                      have HB := n3_
                                      clear n0_ n1_ n2_ n3_
                                      obtain ⟨Ao93, co93, eo93⟩ := Kd.R_slice HO365.out
                                      (first | subst eo93 | (injection eo93 with f1_ f2_ f3_; have f4_ := f1_.symm; have f5_ := f3_.symm; clear f1_ f2_ f3_; subst f4_; subst f5_))
                                      have p366 : 0 ≤ ((ji81) : Int) := of_decide_eq_true (by first | (with_reducible assumption) | assumption)
                                      have q366 : (ji81) < (t363.length : Int) := of_decide_eq_true (by first | (with_reducible assumption) | assumption)
                                      obtain ⟨ad366, e366, hx366_0⟩ := Kd.at_int (Kd.R_reads' HO365.out).2.2 (ji81) p366 q366
                                      cases e366
                                      replace p366 := eq_true p366
                                      replace q366 := eq_true q366
                                      have p87 : 0 ≤ ((ji81) : Int) := of_decide_eq_true (by first | (with_reducible assumption) | assumption)
                                      have q87 : ((ji81) : Int) < ((t363.length : Int) : Int) := of_decide_eq_true (by first | (with_reducible assumption) | assumption)
                                      obtain ⟨go87, co87, eo87, gb87, gl87, cl87, HG87⟩ := Kd.R_form HO365.out (by omega)
                                      (first | cases eo87 | (injection eo87 with ea_ en_ ec_; (first | subst ea_ | (injection ea_ with ea_; subst ea_)); subst ec_; clear en_))
                                      have GB87 := Aside0.mk gb87
                                      have GG87 := Aside0.mk HG87
                                      clear gb87 gl87 HG87
                                      (first | simp only [add_plain] at hx366_0 | skip)
                                      obtain ⟨hx87_0, hf87_0⟩ := Kd.R_celln 0 HO365.out ((ji81) : Int) p87 q87
                                      replace p87 := eq_true p87
                                      replace q87 := eq_true q87
                                      have HP94 := Kd.R_putn HO365.out ((ji81) : Int) (Go.bits .xor .u8 (rd t363 (ji81)) (ji86))
                                      rw [← Ny367.out] at HP94
                                      have HQ94 := Aside0.mk HP94
                                      clear HP94
                                      refine start_ (n := 19) (S := fun w' => w'.cell? ⟨go87, ((ji81)).toNat, none⟩ = some (.int .u8 (rd t363 (ji81)))) (ds := [18]) #[false, false, false, false, false, false, false, false, false, false, false, false, false, false, false, false, false, false, false] (by kernel_rfl) rfl rfl (hx366_0) (fun hHeld => ?_); refine with_tabW cooperagelaw4_RecordRow.tab27 cooperagelaw4_RecordRow.bits27 (fun HT_ HW_ => ?_)
                                      generalize w91.drew = w92 at HO_8 HO_9 HO365 HB GG87 HQ94 hf87_0 hx366_0 hx87_0 hHeld ⊢
                                      refine pure_ (i := 0) (N := some 126) (v := ?_) (a' := ?_) #[true, false, false, false, false, false, false, false, false, false, false, false, false, false, false, false, false, false, false] rfl rfl (any_of HT_.out (by kernel_rfl)) (fun _ _ _ h => h) (Or.inl ⟨by rfl, ?_⟩) ?_ ?_
                                      rotate_left
                                      · intro w'
                                        go_simp
                                        with_reducible rfl
                                      rotate_left
                                      · simp only [Act.put, List.setIfInBounds_toArray, List.set_cons_zero, List.set_cons_succ, i64_w, i32_w]
                                        rfl
                                      refine pure_ (i := 1) (N := some 127) (v := ?_) (a' := ?_) #[true, true, false, false, false, false, false, false, false, false, false, false, false, false, false, false, false, false, false] rfl rfl (any_of HT_.out (by kernel_rfl)) (fun _ _ _ h => h) (Or.inl ⟨by rfl, ?_⟩) ?_ ?_
                                      rotate_left
                                      · intro w'
                                        go_simp
                                        with_reducible rfl
                                      rotate_left
                                      · simp only [Act.put, List.setIfInBounds_toArray, List.set_cons_zero, List.set_cons_succ, i64_w, i32_w]
                                        rfl
                                      refine pure_ (i := 2) (N := some 128) (v := ?_) (a' := ?_) #[true, true, true, false, false, false, false, false, false, false, false, false, false, false, false, false, false, false, false] rfl rfl (any_of HT_.out (by kernel_rfl)) (fun _ _ _ h => h) (Or.inl ⟨by rfl, ?_⟩) ?_ ?_
                                      rotate_left
                                      · intro w'
                                        go_simp
                                        with_reducible rfl
                                      rotate_left
                                      · simp only [Act.put, List.setIfInBounds_toArray, List.set_cons_zero, List.set_cons_succ, i64_w, i32_w]
                                        rfl
                                      refine pure_ (i := 3) (N := some 129) (v := ?_) (a' := ?_) #[true, true, true, true, false, false, false, false, false, false, false, false, false, false, false, false, false, false, false] rfl rfl (any_of HT_.out (by kernel_rfl)) (fun _ _ _ h => h) (Or.inl ⟨by rfl, ?_⟩) ?_ ?_
                                      rotate_left
                                      · intro w'
                                        go_simp
                                        with_reducible rfl
                                      rotate_left
                                      · simp only [Act.put, List.setIfInBounds_toArray, List.set_cons_zero, List.set_cons_succ, i64_w, i32_w]
                                        rfl
                                      refine pure_ (i := 4) (N := some 130) (v := ?_) (a' := ?_) #[true, true, true, true, true, false, false, false, false, false, false, false, false, false, false, false, false, false, false] rfl rfl (any_of HT_.out (by kernel_rfl)) (fun _ _ _ h => h) (Or.inl ⟨by rfl, ?_⟩) ?_ ?_
                                      rotate_left
                                      · intro w'
                                        go_simp
                                        with_reducible rfl
                                      rotate_left
                                      · simp only [Act.put, List.setIfInBounds_toArray, List.set_cons_zero, List.set_cons_succ, i64_w, i32_w]
                                        rfl
                                      refine pure_ (i := 5) (N := some 131) (v := ?_) (a' := ?_) #[true, true, true, true, true, true, false, false, false, false, false, false, false, false, false, false, false, false, false] rfl rfl (any_of HT_.out (by kernel_rfl)) (fun _ _ _ h => h) (Or.inl ⟨by rfl, ?_⟩) ?_ ?_
                                      rotate_left
                                      · intro w'
                                        go_simp
                                        with_reducible rfl
                                      rotate_left
                                      · simp only [Act.put, List.setIfInBounds_toArray, List.set_cons_zero, List.set_cons_succ, i64_w, i32_w]
                                        rfl
                                      refine pure_ (i := 6) (N := some 132) (v := ?_) (a' := ?_) #[true, true, true, true, true, true, true, false, false, false, false, false, false, false, false, false, false, false, false] rfl rfl (any_of HT_.out (by kernel_rfl)) (fun _ _ _ h => h) (Or.inl ⟨by rfl, ?_⟩) ?_ ?_
                                      rotate_left
                                      · intro w'
                                        go_simp
                                        with_reducible rfl
                                      rotate_left
                                      · simp only [Act.put, List.setIfInBounds_toArray, List.set_cons_zero, List.set_cons_succ, i64_w, i32_w]
                                        rfl
                                      refine pure_ (i := 7) (N := some 133) (v := ?_) (a' := ?_) #[true, true, true, true, true, true, true, true, false, false, false, false, false, false, false, false, false, false, false] rfl rfl (any_of HT_.out (by kernel_rfl)) (fun _ _ _ h => h) (Or.inl ⟨by rfl, ?_⟩) ?_ ?_
                                      rotate_left
                                      · intro w'
                                        go_simp
                                        with_reducible rfl
                                      rotate_left
                                      · simp only [Act.put, List.setIfInBounds_toArray, List.set_cons_zero, List.set_cons_succ, i64_w, i32_w]
                                        rfl
                                      refine pure_ (i := 8) (N := some 134) (v := ?_) (a' := ?_) #[true, true, true, true, true, true, true, true, true, false, false, false, false, false, false, false, false, false, false] rfl rfl (any_of HT_.out (by kernel_rfl)) (fun _ _ _ h => h) (Or.inl ⟨by rfl, ?_⟩) ?_ ?_
                                      rotate_left
                                      · intro w'
                                        go_simp
                                        with_reducible rfl
                                      rotate_left
                                      · simp only [Act.put, List.setIfInBounds_toArray, List.set_cons_zero, List.set_cons_succ, i64_w, i32_w]
                                        rfl
                                      refine pure_ (i := 9) (N := some 135) (v := ?_) (a' := ?_) #[true, true, true, true, true, true, true, true, true, true, false, false, false, false, false, false, false, false, false] rfl rfl (any_of HT_.out (by kernel_rfl)) (fun _ _ _ h => h) (Or.inl ⟨by rfl, ?_⟩) ?_ ?_
                                      rotate_left
                                      · intro w'
                                        go_simp
                                        with_reducible rfl
                                      rotate_left
                                      · simp only [Act.put, List.setIfInBounds_toArray, List.set_cons_zero, List.set_cons_succ, i64_w, i32_w]
                                        rfl
                                      refine pure_ (i := 10) (N := some 136) (v := ?_) (a' := ?_) #[true, true, true, true, true, true, true, true, true, true, true, false, false, false, false, false, false, false, false] rfl rfl (any_of HT_.out (by kernel_rfl)) (fun _ _ _ h => h) (Or.inl ⟨by rfl, ?_⟩) ?_ ?_
                                      rotate_left
                                      · intro w'
                                        go_simp
                                        with_reducible rfl
                                      rotate_left
                                      · simp only [Act.put, List.setIfInBounds_toArray, List.set_cons_zero, List.set_cons_succ, i64_w, i32_w]
                                        rfl
                                      refine pure_ (i := 12) (N := some 138) (v := ?_) (a' := ?_) #[true, true, true, true, true, true, true, true, true, true, true, false, true, false, false, false, false, false, false] rfl rfl (any_of HT_.out (by kernel_rfl)) (fun _ _ _ h => h) (Or.inl ⟨by rfl, ?_⟩) ?_ ?_
                                      rotate_left
                                      · intro w'
                                        go_simp
                                        with_reducible rfl
                                      rotate_left
                                      · simp only [Act.put, List.setIfInBounds_toArray, List.set_cons_zero, List.set_cons_succ, i64_w, i32_w]
                                        rfl
                                      refine pure_ (i := 13) (N := some 139) (v := ?_) (a' := ?_) #[true, true, true, true, true, true, true, true, true, true, true, false, true, true, false, false, false, false, false] rfl rfl (any_of HT_.out (by kernel_rfl)) (fun _ _ _ h => h) (Or.inl ⟨by rfl, ?_⟩) ?_ ?_
                                      rotate_left
                                      · intro w'
                                        go_simp
                                        with_reducible rfl
                                      rotate_left
                                      · simp only [Act.put, List.setIfInBounds_toArray, List.set_cons_zero, List.set_cons_succ, i64_w, i32_w]
                                        rfl
                                      refine pure_ (i := 14) (N := some 140) (v := ?_) (a' := ?_) #[true, true, true, true, true, true, true, true, true, true, true, false, true, true, true, false, false, false, false] rfl rfl (any_of HT_.out (by kernel_rfl)) (fun _ _ _ h => h) (Or.inl ⟨by rfl, ?_⟩) ?_ ?_
                                      rotate_left
                                      · intro w'
                                        go_simp
                                        with_reducible rfl
                                      rotate_left
                                      · simp only [Act.put, List.setIfInBounds_toArray, List.set_cons_zero, List.set_cons_succ, i64_w, i32_w]
                                        rfl
                                      refine pure_ (i := 15) (N := some 141) (v := ?_) (a' := ?_) #[true, true, true, true, true, true, true, true, true, true, true, false, true, true, true, true, false, false, false] rfl rfl (any_of HT_.out (by kernel_rfl)) (fun _ _ _ h => h) (Or.inl ⟨by rfl, ?_⟩) ?_ ?_
                                      rotate_left
                                      · intro w'
                                        go_simp
                                        with_reducible rfl
                                      rotate_left
                                      · simp only [Act.put, List.setIfInBounds_toArray, List.set_cons_zero, List.set_cons_succ, i64_w, i32_w]
                                        rfl
                                      refine take_ (i := 11) (N := some 137) (v := ?_) (a' := ?_) #[true, true, true, true, true, true, true, true, true, true, true, true, true, true, true, true, false, false, false] rfl rfl (take_ofW HT_.out HW_.out (by kernel_rfl)) (fun _ _ _ h => h) (Or.inl ⟨by rfl, ?_⟩) hHeld ?_ ?_
                                      rotate_left
                                      · intro w' s0
                                        go_simp
                                        with_reducible rfl
                                      rotate_left
                                      · simp only [Act.put, List.setIfInBounds_toArray, List.set_cons_zero, List.set_cons_succ, i64_w, i32_w]
                                        rfl
                                      refine pure_ (i := 16) (N := some 142) (v := ?_) (a' := ?_) #[true, true, true, true, true, true, true, true, true, true, true, true, true, true, true, true, true, false, false] rfl rfl (any_of HT_.out (by kernel_rfl)) (fun _ _ _ h => h) (Or.inl ⟨by rfl, ?_⟩) ?_ ?_
                                      rotate_left
                                      · intro w'
                                        go_simp
                                        with_reducible rfl
                                      rotate_left
                                      · simp only [Act.put, List.setIfInBounds_toArray, List.set_cons_zero, List.set_cons_succ, i64_w, i32_w]
                                        rfl
                                      refine pure_ (i := 17) (N := some 143) (v := ?_) (a' := ?_) #[true, true, true, true, true, true, true, true, true, true, true, true, true, true, true, true, true, true, false] rfl rfl (any_of HT_.out (by kernel_rfl)) (fun _ _ _ h => h) (Or.inl ⟨by rfl, ?_⟩) ?_ ?_
                                      rotate_left
                                      · intro w'
                                        go_simp
                                        with_reducible rfl
                                      rotate_left
                                      · simp only [Act.put, List.setIfInBounds_toArray, List.set_cons_zero, List.set_cons_succ, i64_w, i32_w]
                                        rfl
                                      refine last_ (i := 18) (N := none) #[true, true, true, true, true, true, true, true, true, true, true, true, true, true, true, true, true, true, true] rfl rfl (one_of HT_.out (by kernel_rfl)) (by decide) (fun K hK => ?_)
                                      refine skip_ (w1 := ?_) (by rfl) rfl ?_ ?_
                                      rotate_left
                                      · go_simp
                                        rfl
                                      refine hK.out _ _ ?_
                                      clear hK K
                                      refine done_ (done_of HT_.out (by kernel_rfl)) ?_
                                      have n0_ : Aside0 (Kd.R (Kd.int .u8) 5 (w92.setCell ⟨go87, ((ji81) : Int).toNat, none⟩ (.int .u8 (Go.bits .xor .u8 (rd t363 (ji81)) (ji86)))) w.heap.size (fun k_ => some k_ ≠ (.slice (some ⟨go87, 0, none⟩) t363.length co93 : Value).ownBlock) u8 x8_2) := ⟨by (with_reducible repeat (first | apply Kd.R_alloc | apply Kd.R_drewN | apply Kd.R_drew)); exact Kd.R_mono (Kd.R_far (p := ⟨go87, ((ji81) : Int).toNat, none⟩) (Kd.R_mono HO_8.out (fun k_ hk => (⟨hk, fun e_ => hk.2 (by rw [e_]; rfl)⟩ : _ ∧ k_ ≠ go87))) (fun _ hk => hk.2) (.int .u8 (Go.bits .xor .u8 (rd t363 (ji81)) (ji86)))) (fun _ hk => hk.1.2)⟩
                                      have n1_ : Aside0 (Kd.R k25 25 (w92.setCell ⟨go87, ((ji81) : Int).toNat, none⟩ (.int .u8 (Go.bits .xor .u8 (rd t363 (ji81)) (ji86)))) w.heap.size (fun _ => True) (.slice (some ad362) x9_2.length co73) x9_2) := ⟨by (with_reducible repeat (first | apply Kd.R_alloc | apply Kd.R_drewN | apply Kd.R_drew)); exact Kd.R_mono (Kd.R_far (p := ⟨go87, ((ji81) : Int).toNat, none⟩) (Kd.R_types HO_9.out GG87.out (by decide)) (fun _ hk => hk.2) (.int .u8 (Go.bits .xor .u8 (rd t363 (ji81)) (ji86)))) (fun _ hk => trivial)⟩
                                      have n2_ : Aside0 (Kd.R (Kd.int .u8) 5 (w92.setCell ⟨go87, ((ji81) : Int).toNat, none⟩ (.int .u8 (Go.bits .xor .u8 (rd t363 (ji81)) (ji86)))) w.heap.size (fun k_ => some k_ ≠ (u8 : Value).ownBlock) (.slice (some ⟨go87, 0, none⟩) t363.length co93) y367) := ⟨by (with_reducible repeat (first | apply Kd.R_alloc | apply Kd.R_drewN | apply Kd.R_drew)); exact Kd.R_mono HQ94.out (fun _ hk => hk.2)⟩
                                      have n3_ : Aside0 (Below w.heap.size w (w92.setCell ⟨go87, ((ji81) : Int).toNat, none⟩ (.int .u8 (Go.bits .xor .u8 (rd t363 (ji81)) (ji86))))) := ⟨by repeat (first | (with_reducible first | exact HB.out | apply below_alloc | apply pw_below_drewN | apply below_drew1 | refine below_set ?_ GB87.out) | exact HB.out)⟩
                                      (try clear HO_8)
                                      (try clear HO_9)
                                      (try clear HO365)
                                      (try clear HB)
                                      generalize (w92.setCell ⟨go87, ((ji81) : Int).toNat, none⟩ (.int .u8 (Go.bits .xor .u8 (rd t363 (ji81)) (ji86)))) = w95 at n0_ n1_ n2_ n3_ ⊢
                                      have HO_8 := n0_
                                      have HO_9 := n1_
                                      have HO365 := n2_
                                      have HB := n3_
                                      clear n0_ n1_ n2_ n3_
                                      try go_wp2_with (first | ((with_reducible refine gate_callee (f := 25) rfl ?_); refine goesL_ (some 146) rfl rfl Try.func25 (by kernel_rfl) rfl #[.slice (some ⟨go87, 0, none⟩) y367.length co93] rfl (by (try simp only [List.map_toArray, List.map_cons, List.map_nil]); first | done | (rw [show y367.length = t363.length from (Kd.R_reads' HO365.out).1.symm] <;> rfl) | rfl | (simp only [List.length_drop, List.length_take]; rfl)) ?_; (with_reducible refine (record_Get.calls kj71 _ _ y367 t368 t369 t370 t371 t372 t373 t374 _ ?side1 ?side2 A88.out).mono ?_); (case side1 => repeat (first | exact (Kd.R_reads' HO365.out).2.2 | (with_reducible refine Kd.C_alloc ?_ _) | (with_reducible refine Kd.C_drewN ?_ _) | (with_reducible refine Kd.C_drew ?_))); (case side2 => rw [show y367.length = t363.length from (Kd.R_reads' HO365.out).1.symm]; exact (Kd.R_reads' HO365.out).2.1); rintro e w96 ⟨rfl, hb⟩; refine ⟨_, rfl, ?_⟩; have n0_ := Aside0.mk (Kd.R_below (by (with_reducible repeat (first | apply Kd.R_alloc | apply Kd.R_drewN | apply Kd.R_drew)); exact HO_8.out) hb); have n1_ := Aside0.mk (Kd.R_below (by (with_reducible repeat (first | apply Kd.R_alloc | apply Kd.R_drewN | apply Kd.R_drew)); exact HO_9.out) hb); have n2_ := Aside0.mk (Kd.R_below (by (with_reducible repeat (first | apply Kd.R_alloc | apply Kd.R_drewN | apply Kd.R_drew)); exact HO365.out) hb); have n3_ := Aside0.mk (below_step (by repeat (first | (with_reducible first | exact HB.out | apply below_alloc | apply pw_below_drewN | apply below_drew1) | exact HB.out)) hb); clear HO_8; clear HO_9; clear HO365; clear HB; have HO_8 := n0_; have HO_9 := n1_; have HO365 := n2_; have HB := n3_; clear n0_ n1_ n2_ n3_; (try clear hb); (try clear hb2); (try clear hk); (try clear hi)) | ((with_reducible refine gate_dst (N := 17) rfl ?_); (try (refine gate_guard (by rfl) ?_; dsimp only)); refine box_event ?hg (N := 17) ?hd (cs := #[.int .i64 0, .int .i64 0, .string (⟨#[]⟩ : ByteArray), .string (⟨#[]⟩ : ByteArray), .bool false]) (t := 25) ?hr ?_; (case hd => rfl); (case hg => rfl); (case hr => first | (go_simp; done) | (go_simp; rfl)); intro gb375 hg w97 hbox hb; have n0_ := Aside0.mk (Kd.R_below (by (with_reducible repeat (first | apply Kd.R_alloc | apply Kd.R_drewN | apply Kd.R_drew)); exact HO_8.out) hb); have n1_ := Aside0.mk (Kd.R_below (Kd.R_elderB (by (with_reducible repeat (first | apply Kd.R_alloc | apply Kd.R_drewN | apply Kd.R_drew)); exact HO_9.out) gb375 (Nat.le_of_eq hg.symm)) hb); have n2_ := Aside0.mk (Kd.R_below (by (with_reducible repeat (first | apply Kd.R_alloc | apply Kd.R_drewN | apply Kd.R_drew)); exact HO365.out) hb); have n3_ := Aside0.mk (below_step (by repeat (first | (with_reducible first | exact HB.out | apply below_alloc | apply pw_below_drewN | apply below_drew1) | exact HB.out)) hb); have n4_ := Aside0.mk (hbox); have n5_ := Aside0.mk ((by rw [hg]; exact (below_size (by repeat (first | (with_reducible first | exact HB.out | apply below_alloc | apply pw_below_drewN | apply below_drew1) | exact HB.out))) : w.heap.size ≤ gb375)); have n6_ := Aside0.mk ((by rw [hg]; exact (below_size (by repeat (first | (with_reducible first | exact HB.out | apply below_alloc | apply pw_below_drewN | apply below_drew1) | exact HB.out))) : w.heap.size ≤ gb375)); clear HO_8; clear HO_9; clear HO365; clear HB; have HO_8 := n0_; have HO_9 := n1_; have HO365 := n2_; have HB := n3_; have BK375 := n4_; have GW375 := n5_; have GE375 := n6_; clear n0_ n1_ n2_ n3_ n4_ n5_ n6_; clear hb hbox hg; have hcz98_0 : w97.cell? ⟨gb375, 0, none⟩ = some (.int .i64 0) := (blk_cell BK375.out 0).trans rfl; have hcz98_1 : w97.cell? ⟨gb375, 1, none⟩ = some (.int .i64 0) := (blk_cell BK375.out 1).trans rfl; have hcz98_2 : w97.cell? ⟨gb375, 2, none⟩ = some (.string (⟨#[]⟩ : ByteArray)) := (blk_cell BK375.out 2).trans rfl; have hcz98_3 : w97.cell? ⟨gb375, 3, none⟩ = some (.string (⟨#[]⟩ : ByteArray)) := (blk_cell BK375.out 3).trans rfl; have hcz98_4 : w97.cell? ⟨gb375, 4, none⟩ = some (.bool false) := (blk_cell BK375.out 4).trans rfl; have hfz98_0 := blk_frozen BK375.out 0; have hfz98_1 := blk_frozen BK375.out 1; have hfz98_2 := blk_frozen BK375.out 2; have hfz98_3 := blk_frozen BK375.out 3; have hfz98_4 := blk_frozen BK375.out 4))
                                      have n0_ : Aside0 (Kd.R (Kd.int .u8) 5 (((((w97.setCell ⟨gb375, 0, none⟩ (.int .i64 t368)).setCell ⟨gb375, 1, none⟩ (.int .i64 t369)).setCell ⟨gb375, 2, none⟩ (.string t370)).setCell ⟨gb375, 3, none⟩ (.string t371)).setCell ⟨gb375, 4, none⟩ (.bool t372)) w.heap.size (fun k_ => some k_ ≠ (.slice (some ⟨go87, 0, none⟩) t363.length co93 : Value).ownBlock) u8 x8_2) := ⟨by (with_reducible repeat (first | apply Kd.R_alloc | apply Kd.R_drewN | apply Kd.R_drew)); exact Kd.R_mono (Kd.R_far (p := ⟨gb375, 4, none⟩) (Kd.R_far (p := ⟨gb375, 3, none⟩) (Kd.R_far (p := ⟨gb375, 2, none⟩) (Kd.R_far (p := ⟨gb375, 1, none⟩) (Kd.R_far (p := ⟨gb375, 0, none⟩) (Kd.R_types HO_8.out BK375.out (by decide)) (fun _ hk => hk.2) (.int .i64 t368)) (fun _ hk => hk.2) (.int .i64 t369)) (fun _ hk => hk.2) (.string t370)) (fun _ hk => hk.2) (.string t371)) (fun _ hk => hk.2) (.bool t372)) (fun _ hk => hk.1)⟩
                                      have n1_ : Aside0 (Kd.R k25 25 (((((w97.setCell ⟨gb375, 0, none⟩ (.int .i64 t368)).setCell ⟨gb375, 1, none⟩ (.int .i64 t369)).setCell ⟨gb375, 2, none⟩ (.string t370)).setCell ⟨gb375, 3, none⟩ (.string t371)).setCell ⟨gb375, 4, none⟩ (.bool t372)) w.heap.size (fun k_ => k_ ≠ gb375) (.slice (some ad362) x9_2.length co73) x9_2) := ⟨by (with_reducible repeat (first | apply Kd.R_alloc | apply Kd.R_drewN | apply Kd.R_drew)); exact Kd.R_mono (Kd.R_far (p := ⟨gb375, 4, none⟩) (Kd.R_far (p := ⟨gb375, 3, none⟩) (Kd.R_far (p := ⟨gb375, 2, none⟩) (Kd.R_far (p := ⟨gb375, 1, none⟩) (Kd.R_far (p := ⟨gb375, 0, none⟩) (Kd.R_mono HO_9.out (fun k_ hk => (⟨hk, hk.2⟩ : _ ∧ k_ ≠ gb375))) (fun _ hk => hk.2) (.int .i64 t368)) (fun _ hk => hk.2) (.int .i64 t369)) (fun _ hk => hk.2) (.string t370)) (fun _ hk => hk.2) (.string t371)) (fun _ hk => hk.2) (.bool t372)) (fun _ hk => hk.1.2)⟩
                                      have n2_ : Aside0 (Kd.R (Kd.int .u8) 5 (((((w97.setCell ⟨gb375, 0, none⟩ (.int .i64 t368)).setCell ⟨gb375, 1, none⟩ (.int .i64 t369)).setCell ⟨gb375, 2, none⟩ (.string t370)).setCell ⟨gb375, 3, none⟩ (.string t371)).setCell ⟨gb375, 4, none⟩ (.bool t372)) w.heap.size (fun k_ => some k_ ≠ (u8 : Value).ownBlock) (.slice (some ⟨go87, 0, none⟩) t363.length co93) y367) := ⟨by (with_reducible repeat (first | apply Kd.R_alloc | apply Kd.R_drewN | apply Kd.R_drew)); exact Kd.R_mono (Kd.R_far (p := ⟨gb375, 4, none⟩) (Kd.R_far (p := ⟨gb375, 3, none⟩) (Kd.R_far (p := ⟨gb375, 2, none⟩) (Kd.R_far (p := ⟨gb375, 1, none⟩) (Kd.R_far (p := ⟨gb375, 0, none⟩) (Kd.R_types HO365.out BK375.out (by decide)) (fun _ hk => hk.2) (.int .i64 t368)) (fun _ hk => hk.2) (.int .i64 t369)) (fun _ hk => hk.2) (.string t370)) (fun _ hk => hk.2) (.string t371)) (fun _ hk => hk.2) (.bool t372)) (fun _ hk => hk.1)⟩
                                      have n3_ : Aside0 ((((((w97.setCell ⟨gb375, 0, none⟩ (.int .i64 t368)).setCell ⟨gb375, 1, none⟩ (.int .i64 t369)).setCell ⟨gb375, 2, none⟩ (.string t370)).setCell ⟨gb375, 3, none⟩ (.string t371)).setCell ⟨gb375, 4, none⟩ (.bool t372)).heap[gb375]? = some (.cells #[.int .i64 t368, .int .i64 t369, .string t370, .string t371, .bool t372] 25 (0, 0))) := ⟨by (with_reducible repeat (first | refine blk_drewN ?_ _ | refine blk_drew ?_ | refine blk_alloc ?_ _)); refine blk_put (cs := #[.int .i64 t368, .int .i64 t369, .string t370, .string t371, .bool false]) ?_ 4 _ rfl; (with_reducible repeat (first | refine blk_drewN ?_ _ | refine blk_drew ?_ | refine blk_alloc ?_ _)); refine blk_put (cs := #[.int .i64 t368, .int .i64 t369, .string t370, .string (⟨#[]⟩ : ByteArray), .bool false]) ?_ 3 _ rfl; (with_reducible repeat (first | refine blk_drewN ?_ _ | refine blk_drew ?_ | refine blk_alloc ?_ _)); refine blk_put (cs := #[.int .i64 t368, .int .i64 t369, .string (⟨#[]⟩ : ByteArray), .string (⟨#[]⟩ : ByteArray), .bool false]) ?_ 2 _ rfl; (with_reducible repeat (first | refine blk_drewN ?_ _ | refine blk_drew ?_ | refine blk_alloc ?_ _)); refine blk_put (cs := #[.int .i64 t368, .int .i64 0, .string (⟨#[]⟩ : ByteArray), .string (⟨#[]⟩ : ByteArray), .bool false]) ?_ 1 _ rfl; (with_reducible repeat (first | refine blk_drewN ?_ _ | refine blk_drew ?_ | refine blk_alloc ?_ _)); refine blk_put (cs := #[.int .i64 0, .int .i64 0, .string (⟨#[]⟩ : ByteArray), .string (⟨#[]⟩ : ByteArray), .bool false]) ?_ 0 _ rfl; (with_reducible repeat (first | refine blk_drewN ?_ _ | refine blk_drew ?_ | refine blk_alloc ?_ _)); exact BK375.out⟩
                                      have n4_ : Aside0 (Below w.heap.size w (((((w97.setCell ⟨gb375, 0, none⟩ (.int .i64 t368)).setCell ⟨gb375, 1, none⟩ (.int .i64 t369)).setCell ⟨gb375, 2, none⟩ (.string t370)).setCell ⟨gb375, 3, none⟩ (.string t371)).setCell ⟨gb375, 4, none⟩ (.bool t372))) := ⟨by repeat (first | (with_reducible first | exact HB.out | apply below_alloc | apply pw_below_drewN | apply below_drew1 | refine below_set ?_ GE375.out) | exact HB.out)⟩
                                      (try clear HO_8)
                                      (try clear HO_9)
                                      (try clear HO365)
                                      (try clear BK375)
                                      (try clear HB)
                                      generalize (((((w97.setCell ⟨gb375, 0, none⟩ (.int .i64 t368)).setCell ⟨gb375, 1, none⟩ (.int .i64 t369)).setCell ⟨gb375, 2, none⟩ (.string t370)).setCell ⟨gb375, 3, none⟩ (.string t371)).setCell ⟨gb375, 4, none⟩ (.bool t372)) = w99 at n0_ n1_ n2_ n3_ n4_ ⊢
                                      have HO_8 := n0_
                                      have HO_9 := n1_
                                      have HO365 := n2_
                                      have BK375 := n3_
                                      have HB := n4_
                                      clear n0_ n1_ n2_ n3_ n4_
                                      have n0_ := Aside0.mk (Kd.R_drew HO_8.out)
                                      have n1_ := Aside0.mk (Kd.R_drew HO_9.out)
                                      have n2_ := Aside0.mk (Kd.R_drew HO365.out)
                                      have n3_ := Aside0.mk (blk_drew BK375.out)
                                      have n4_ := Aside0.mk (below_drew1 HB.out)
                                      clear HO_8
                                      clear HO_9
                                      clear HO365
                                      clear BK375
                                      clear HB
                                      have HO_8 := n0_
                                      have HO_9 := n1_
                                      have HO365 := n2_
                                      have BK375 := n3_
                                      have HB := n4_
                                      clear n0_ n1_ n2_ n3_ n4_
                                      have p377 : 0 ≤ (0 : Int) := (by omega)
                                      have q377 : 0 < (x9_2.length : Int) := of_decide_eq_true (by first | (with_reducible assumption) | assumption)
                                      obtain ⟨ad377, e377, hx377_0, hx377_1, hx377_2, hx377_3, hx377_4⟩ := at_T25 (Kd.R_reads' HO_9.out).2.2 0 p377 q377
                                      obtain rfl : ad362 = ad377 := (by injection e377)
                                      have qi377 : (0 < x9_2.length) = True := eq_true (by omega)
                                      (try rw [show ((0 : Int)).toNat = 0 from rfl] at hx377_0)
                                      (try rw [show 0 * 5 = 0 from rfl] at hx377_0)
                                      (try rw [Addr.add_zero'] at hx377_0)
                                      (try rw [show ((0 : Int)).toNat = 0 from rfl] at hx377_1)
                                      (try rw [show 0 * 5 = 0 from rfl] at hx377_1)
                                      (try rw [Addr.add_zero'] at hx377_1)
                                      (try rw [show ((0 : Int)).toNat = 0 from rfl] at hx377_2)
                                      (try rw [show 0 * 5 = 0 from rfl] at hx377_2)
                                      (try rw [Addr.add_zero'] at hx377_2)
                                      (try rw [show ((0 : Int)).toNat = 0 from rfl] at hx377_3)
                                      (try rw [show 0 * 5 = 0 from rfl] at hx377_3)
                                      (try rw [Addr.add_zero'] at hx377_3)
                                      (try rw [show ((0 : Int)).toNat = 0 from rfl] at hx377_4)
                                      (try rw [show 0 * 5 = 0 from rfl] at hx377_4)
                                      (try rw [Addr.add_zero'] at hx377_4)
                                      replace p377 := eq_true p377
                                      replace q377 := eq_true q377
                                      refine start_ (n := 11) (S := fun w' => w'.cell? ⟨gb375, 0, none⟩ = some (.int .i64 t368) ∧ w'.cell? ⟨gb375, 1, none⟩ = some (.int .i64 t369) ∧ w'.cell? ⟨gb375, 2, none⟩ = some (.string t370) ∧ w'.cell? ⟨gb375, 3, none⟩ = some (.string t371) ∧ w'.cell? ⟨gb375, 4, none⟩ = some (.bool t372) ∧ w'.cell? ad362 = some (.int .i64 ((rd_T25 x9_2 0).f0)) ∧ w'.cell? ⟨ad362.block, ad362.off + 1, none⟩ = some (.int .i64 ((rd_T25 x9_2 0).f1)) ∧ w'.cell? ⟨ad362.block, ad362.off + 2, none⟩ = some (.string ((rd_T25 x9_2 0).f2)) ∧ w'.cell? ⟨ad362.block, ad362.off + 3, none⟩ = some (.string ((rd_T25 x9_2 0).f3)) ∧ w'.cell? ⟨ad362.block, ad362.off + 4, none⟩ = some (.bool ((rd_T25 x9_2 0).f4))) (ds := []) #[false, false, false, false, false, false, false, false, false, false, false] (by kernel_rfl) rfl rfl ⟨(blk_cell BK375.out 0).trans rfl, (blk_cell BK375.out 1).trans rfl, (blk_cell BK375.out 2).trans rfl, (blk_cell BK375.out 3).trans rfl, (blk_cell BK375.out 4).trans rfl, hx377_0, hx377_1, hx377_2, hx377_3, hx377_4⟩ (fun hHeld => ?_); refine with_tabW cooperagelaw4_RecordRow.tab29 cooperagelaw4_RecordRow.bits29 (fun HT_ HW_ => ?_)
                                      generalize w99.drew = w100 at HO_8 HO_9 HO365 BK375 HB hx377_0 hx377_1 hx377_2 hx377_3 hx377_4 hHeld ⊢
                                      refine pure_ (i := 0) (N := some 150) (v := ?_) (a' := ?_) #[true, false, false, false, false, false, false, false, false, false, false] rfl rfl (any_of HT_.out (by kernel_rfl)) (fun _ _ _ h => h) (Or.inl ⟨by rfl, ?_⟩) ?_ ?_
                                      rotate_left
                                      · intro w'
                                        go_simp
                                        with_reducible rfl
                                      rotate_left
                                      · simp only [Act.put, List.setIfInBounds_toArray, List.set_cons_zero, List.set_cons_succ, i64_w, i32_w]
                                        rfl
                                      refine one_ (i := 1) (N := some 151) #[true, true, false, false, false, false, false, false, false, false, false] rfl rfl (one_of HT_.out (by kernel_rfl)) (by decide) (fun K hK => ?_)
                                      refine goes_ Try.func27 (by kernel_rfl) rfl #[.int .i64 t374] (by rfl) rfl rfl (by (try simp only [List.map_toArray, List.map_cons, List.map_nil]); first | done | rfl | (simp only [List.length_drop, List.length_take]; rfl)) ?_
                                      with_reducible refine (cooperagelaw4_num.calls t374 t376 _ A89.out).mono ?_
                                      rintro e w' ⟨rfl, ⟨nd, rfl⟩⟩
                                      refine ⟨_, rfl, ?_⟩
                                      refine hK.out _ _ ⟨(blk_cell BK375.out 0).trans rfl, (blk_cell BK375.out 1).trans rfl, (blk_cell BK375.out 2).trans rfl, (blk_cell BK375.out 3).trans rfl, (blk_cell BK375.out 4).trans rfl, hHeld.2.2.2.2.2.1, hHeld.2.2.2.2.2.2.1, hHeld.2.2.2.2.2.2.2.1, hHeld.2.2.2.2.2.2.2.2.1, hHeld.2.2.2.2.2.2.2.2.2⟩ (fun hHeld => ?_)
                                      clear hK K
                                      refine norm_ (a' := ?_) ?_ ?_
                                      rotate_left
                                      · show Act.put _ (some 151) _ = _
                                        simp only [Act.put, List.setIfInBounds_toArray, List.set_cons_zero, List.set_cons_succ, i64_w, i32_w]
                                        rfl
                                      refine pure_ (i := 2) (N := some 152) (v := ?_) (a' := ?_) #[true, true, true, false, false, false, false, false, false, false, false] rfl rfl (any_of HT_.out (by kernel_rfl)) (fun _ _ _ h => h) (Or.inl ⟨by rfl, ?_⟩) ?_ ?_
                                      rotate_left
                                      · intro w'
                                        go_simp
                                        with_reducible rfl
                                      rotate_left
                                      · simp only [Act.put, List.setIfInBounds_toArray, List.set_cons_zero, List.set_cons_succ, i64_w, i32_w]
                                        rfl
                                      refine pure_ (i := 3) (N := some 153) (v := ?_) (a' := ?_) #[true, true, true, true, false, false, false, false, false, false, false] rfl rfl (any_of HT_.out (by kernel_rfl)) (fun _ _ _ h => h) (Or.inl ⟨by rfl, ?_⟩) ?_ ?_
                                      rotate_left
                                      · intro w'
                                        go_simp
                                        with_reducible rfl
                                      rotate_left
                                      · simp only [Act.put, List.setIfInBounds_toArray, List.set_cons_zero, List.set_cons_succ, i64_w, i32_w]
                                        rfl
                                      refine pure_ (i := 5) (N := some 155) (v := ?_) (a' := ?_) #[true, true, true, true, false, true, false, false, false, false, false] rfl rfl (any_of HT_.out (by kernel_rfl)) (fun _ _ _ h => h) (Or.inl ⟨by rfl, ?_⟩) ?_ ?_
                                      rotate_left
                                      · intro w'
                                        go_simp
                                        with_reducible rfl
                                      rotate_left
                                      · simp only [Act.put, List.setIfInBounds_toArray, List.set_cons_zero, List.set_cons_succ, i64_w, i32_w]
                                        rfl
                                      refine pure_ (i := 6) (N := some 156) (v := ?_) (a' := ?_) #[true, true, true, true, false, true, true, false, false, false, false] rfl rfl (any_of HT_.out (by kernel_rfl)) (fun _ _ _ h => h) (Or.inl ⟨by rfl, ?_⟩) ?_ ?_
                                      rotate_left
                                      · intro w'
                                        go_simp
                                        with_reducible rfl
                                      rotate_left
                                      · simp only [Act.put, List.setIfInBounds_toArray, List.set_cons_zero, List.set_cons_succ, i64_w, i32_w]
                                        rfl
                                      refine take_ (i := 4) (N := some 154) (v := ?_) (a' := ?_) #[true, true, true, true, true, true, true, false, false, false, false] rfl rfl (take_ofW HT_.out HW_.out (by kernel_rfl)) (fun _ _ _ h => h) (Or.inl ⟨by rfl, ?_⟩) hHeld ?_ ?_
                                      rotate_left
                                      · rintro w' ⟨s0, s1, s2, s3, s4, s5, s6, s7, s8, s9⟩
                                        go_simp
                                        with_reducible rfl
                                      rotate_left
                                      · simp only [Act.put, List.setIfInBounds_toArray, List.set_cons_zero, List.set_cons_succ, i64_w, i32_w]
                                        rfl
                                      refine take_ (i := 7) (N := some 157) (v := ?_) (a' := ?_) #[true, true, true, true, true, true, true, true, false, false, false] rfl rfl (take_ofW HT_.out HW_.out (by kernel_rfl)) (fun _ _ _ h => h) (Or.inl ⟨by rfl, ?_⟩) hHeld ?_ ?_
                                      rotate_left
                                      · rintro w' ⟨s0, s1, s2, s3, s4, s5, s6, s7, s8, s9⟩
                                        go_simp
                                        with_reducible rfl
                                      rotate_left
                                      · simp only [Act.put, List.setIfInBounds_toArray, List.set_cons_zero, List.set_cons_succ, i64_w, i32_w]
                                        rfl
                                      refine pure_ (i := 8) (N := some 158) (v := ?_) (a' := ?_) #[true, true, true, true, true, true, true, true, true, false, false] rfl rfl (any_of HT_.out (by kernel_rfl)) (fun _ _ _ h => h) (Or.inl ⟨by rfl, ?_⟩) ?_ ?_
                                      rotate_left
                                      · intro w'
                                        go_simp
                                        with_reducible rfl
                                      rotate_left
                                      · simp only [Act.put, List.setIfInBounds_toArray, List.set_cons_zero, List.set_cons_succ, i64_w, i32_w]
                                        rfl
                                      refine pure_ (i := 9) (N := some 159) (v := ?_) (a' := ?_) #[true, true, true, true, true, true, true, true, true, true, false] rfl rfl (any_of HT_.out (by kernel_rfl)) (fun _ _ _ h => h) (Or.inl ⟨by rfl, ?_⟩) ?_ ?_
                                      rotate_left
                                      · intro w'
                                        go_simp
                                        with_reducible rfl
                                      rotate_left
                                      · simp only [Act.put, List.setIfInBounds_toArray, List.set_cons_zero, List.set_cons_succ, i64_w, i32_w]
                                        rfl
                                      refine pure_ (i := 10) (N := some 6) (v := ?_) (a' := ?_) #[true, true, true, true, true, true, true, true, true, true, true] rfl rfl (any_of HT_.out (by kernel_rfl)) (fun _ _ _ h => h) (Or.inl ⟨by rfl, ?_⟩) ?_ ?_
                                      rotate_left
                                      · intro w'
                                        go_simp
                                        with_reducible rfl
                                      rotate_left
                                      · simp only [Act.put, List.setIfInBounds_toArray, List.set_cons_zero, List.set_cons_succ, i64_w, i32_w]
                                        rfl
                                      refine done_ (done_of HT_.out (by kernel_rfl)) ?_
                                      try go_wp2
                                      go_ret
                                      exact ⟨by first | rfl | (simp [errW_none, errW_some] <;> rfl) | (simp only [← hji81, ← hji84, ← hji86]; first | rfl | (simp [errW_none, errW_some] <;> rfl)) | (simp [*, errW_none, errW_some] <;> rfl) | (simp [errW_none, errW_some]; generalize ByteArray.toList _ = l_; cases l_ <;> rfl), by repeat (first | (with_reducible first | exact HB.out | apply below_alloc | apply pw_below_drewN | apply below_drew1 | refine below_set ?_ GE375.out) | exact HB.out)⟩
                                    · rw [if_neg c90] at H
                                      have c90b0 : (t376 == 0) = false := beq_eq_false_iff_ne.mpr c90
                                      have c90b1 : (t376 != 0) = true := bne_iff_ne.mpr c90
                                      obtain rfl := Option.some.inj H
                                      have p362 : 0 ≤ (0 : Int) := (by omega)
                                      have q362 : 0 < (x9_2.length : Int) := of_decide_eq_true (by first | (with_reducible assumption) | assumption)
                                      obtain ⟨ad362, e362, hx362_0, hx362_1, hx362_2, hx362_3, hx362_4⟩ := at_T25 (Kd.R_reads' HO_9.out).2.2 0 p362 q362
                                      cases e362
                                      have qi362 : (0 < x9_2.length) = True := eq_true (by omega)
                                      (try rw [show ((0 : Int)).toNat = 0 from rfl] at hx362_0)
                                      (try rw [show 0 * 5 = 0 from rfl] at hx362_0)
                                      (try rw [Addr.add_zero'] at hx362_0)
                                      (try rw [show ((0 : Int)).toNat = 0 from rfl] at hx362_1)
                                      (try rw [show 0 * 5 = 0 from rfl] at hx362_1)
                                      (try rw [Addr.add_zero'] at hx362_1)
                                      (try rw [show ((0 : Int)).toNat = 0 from rfl] at hx362_2)
                                      (try rw [show 0 * 5 = 0 from rfl] at hx362_2)
                                      (try rw [Addr.add_zero'] at hx362_2)
                                      (try rw [show ((0 : Int)).toNat = 0 from rfl] at hx362_3)
                                      (try rw [show 0 * 5 = 0 from rfl] at hx362_3)
                                      (try rw [Addr.add_zero'] at hx362_3)
                                      (try rw [show ((0 : Int)).toNat = 0 from rfl] at hx362_4)
                                      (try rw [show 0 * 5 = 0 from rfl] at hx362_4)
                                      (try rw [Addr.add_zero'] at hx362_4)
                                      replace p362 := eq_true p362
                                      replace q362 := eq_true q362
                                      try go_wp2_with (first | ((with_reducible refine gate_callee (f := 29) rfl ?_); refine goesL_ (some 125) rfl rfl Try.func29 (by kernel_rfl) rfl #[.slice none 0 0, .agg #[.int .i64 ((rd_T25 x9_2 0).f0), .int .i64 ((rd_T25 x9_2 0).f1), .string ((rd_T25 x9_2 0).f2), .string ((rd_T25 x9_2 0).f3), .bool ((rd_T25 x9_2 0).f4)]] rfl (by (try simp only [List.map_toArray, List.map_cons, List.map_nil]); first | done | rfl | (simp only [List.length_drop, List.length_take]; rfl)) ?_; (refine (cooperageref1_PutRecord.calls kj71 _ _ ([] : List Int) ((rd_T25 x9_2 0).f0) ((rd_T25 x9_2 0).f1) ((rd_T25 x9_2 0).f2) ((rd_T25 x9_2 0).f3) ((rd_T25 x9_2 0).f4) t363 _ ?side1 ?side2 A79.out).mono ?_); (case side1 => exact Kd.C_nil _ _); (case side2 => exact Nat.le_refl _); rintro e w101 ⟨v364, rfl, ho0, hb⟩; refine ⟨_, rfl, ?_⟩; have n0_ := Aside0.mk (Kd.R_elder' (by (with_reducible repeat (first | apply Kd.R_alloc | apply Kd.R_drewN | apply Kd.R_drew)); exact HO_8.out) (Kd.R_base ho0) hb); have n1_ := Aside0.mk (Kd.R_below (by (with_reducible repeat (first | apply Kd.R_alloc | apply Kd.R_drewN | apply Kd.R_drew)); exact HO_9.out) hb); have n2_ := Aside0.mk (Kd.R_lower (Kd.R_new' ho0 (Kd.R_lt (by (with_reducible repeat (first | apply Kd.R_alloc | apply Kd.R_drewN | apply Kd.R_drew)); exact HO_8.out))) (below_size (by repeat (first | (with_reducible first | exact HB.out | apply below_alloc | apply pw_below_drewN | apply below_drew1) | exact HB.out)))); have n3_ := Aside0.mk (below_step (by repeat (first | (with_reducible first | exact HB.out | apply below_alloc | apply pw_below_drewN | apply below_drew1) | exact HB.out)) hb); clear HO_8; clear HO_9; clear HB; have HO_8 := n0_; have HO_9 := n1_; have HO365 := n2_; have HB := n3_; clear n0_ n1_ n2_ n3_; (try clear hb); (try clear hb2); (try clear hk); (try clear hi); (try clear ho0)))
                                      have n0_ := Aside0.mk (Kd.R_drew HO_8.out)
                                      have n1_ := Aside0.mk (Kd.R_drew HO_9.out)
                                      have n2_ := Aside0.mk (Kd.R_drew HO365.out)
                                      have n3_ := Aside0.mk (below_drew1 HB.out)
                                      clear HO_8
                                      clear HO_9
                                      clear HO365
                                      clear HB
                                      have HO_8 := n0_
                                      have HO_9 := n1_
                                      have HO365 := n2_
                                      have HB := n3_
                                      clear n0_ n1_ n2_ n3_
                                      obtain ⟨Ao103, co103, eo103⟩ := Kd.R_slice HO365.out
                                      (first | subst eo103 | (injection eo103 with f1_ f2_ f3_; have f4_ := f1_.symm; have f5_ := f3_.symm; clear f1_ f2_ f3_; subst f4_; subst f5_))
                                      have p366 : 0 ≤ ((ji81) : Int) := of_decide_eq_true (by first | (with_reducible assumption) | assumption)
                                      have q366 : (ji81) < (t363.length : Int) := of_decide_eq_true (by first | (with_reducible assumption) | assumption)
                                      obtain ⟨ad366, e366, hx366_0⟩ := Kd.at_int (Kd.R_reads' HO365.out).2.2 (ji81) p366 q366
                                      cases e366
                                      replace p366 := eq_true p366
                                      replace q366 := eq_true q366
                                      have p87 : 0 ≤ ((ji81) : Int) := of_decide_eq_true (by first | (with_reducible assumption) | assumption)
                                      have q87 : ((ji81) : Int) < ((t363.length : Int) : Int) := of_decide_eq_true (by first | (with_reducible assumption) | assumption)
                                      obtain ⟨go87, co87, eo87, gb87, gl87, cl87, HG87⟩ := Kd.R_form HO365.out (by omega)
                                      (first | cases eo87 | (injection eo87 with ea_ en_ ec_; (first | subst ea_ | (injection ea_ with ea_; subst ea_)); subst ec_; clear en_))
                                      have GB87 := Aside0.mk gb87
                                      have GG87 := Aside0.mk HG87
                                      clear gb87 gl87 HG87
                                      (first | simp only [add_plain] at hx366_0 | skip)
                                      obtain ⟨hx87_0, hf87_0⟩ := Kd.R_celln 0 HO365.out ((ji81) : Int) p87 q87
                                      replace p87 := eq_true p87
                                      replace q87 := eq_true q87
                                      have HP104 := Kd.R_putn HO365.out ((ji81) : Int) (Go.bits .xor .u8 (rd t363 (ji81)) (ji86))
                                      rw [← Ny367.out] at HP104
                                      have HQ104 := Aside0.mk HP104
                                      clear HP104
                                      refine start_ (n := 19) (S := fun w' => w'.cell? ⟨go87, ((ji81)).toNat, none⟩ = some (.int .u8 (rd t363 (ji81)))) (ds := [18]) #[false, false, false, false, false, false, false, false, false, false, false, false, false, false, false, false, false, false, false] (by kernel_rfl) rfl rfl (hx366_0) (fun hHeld => ?_); refine with_tabW cooperagelaw4_RecordRow.tab27 cooperagelaw4_RecordRow.bits27 (fun HT_ HW_ => ?_)
                                      generalize w101.drew = w102 at HO_8 HO_9 HO365 HB GG87 HQ104 hf87_0 hx366_0 hx87_0 hHeld ⊢
                                      refine pure_ (i := 0) (N := some 126) (v := ?_) (a' := ?_) #[true, false, false, false, false, false, false, false, false, false, false, false, false, false, false, false, false, false, false] rfl rfl (any_of HT_.out (by kernel_rfl)) (fun _ _ _ h => h) (Or.inl ⟨by rfl, ?_⟩) ?_ ?_
                                      rotate_left
                                      · intro w'
                                        go_simp
                                        with_reducible rfl
                                      rotate_left
                                      · simp only [Act.put, List.setIfInBounds_toArray, List.set_cons_zero, List.set_cons_succ, i64_w, i32_w]
                                        rfl
                                      refine pure_ (i := 1) (N := some 127) (v := ?_) (a' := ?_) #[true, true, false, false, false, false, false, false, false, false, false, false, false, false, false, false, false, false, false] rfl rfl (any_of HT_.out (by kernel_rfl)) (fun _ _ _ h => h) (Or.inl ⟨by rfl, ?_⟩) ?_ ?_
                                      rotate_left
                                      · intro w'
                                        go_simp
                                        with_reducible rfl
                                      rotate_left
                                      · simp only [Act.put, List.setIfInBounds_toArray, List.set_cons_zero, List.set_cons_succ, i64_w, i32_w]
                                        rfl
                                      refine pure_ (i := 2) (N := some 128) (v := ?_) (a' := ?_) #[true, true, true, false, false, false, false, false, false, false, false, false, false, false, false, false, false, false, false] rfl rfl (any_of HT_.out (by kernel_rfl)) (fun _ _ _ h => h) (Or.inl ⟨by rfl, ?_⟩) ?_ ?_
                                      rotate_left
                                      · intro w'
                                        go_simp
                                        with_reducible rfl
                                      rotate_left
                                      · simp only [Act.put, List.setIfInBounds_toArray, List.set_cons_zero, List.set_cons_succ, i64_w, i32_w]
                                        rfl
                                      refine pure_ (i := 3) (N := some 129) (v := ?_) (a' := ?_) #[true, true, true, true, false, false, false, false, false, false, false, false, false, false, false, false, false, false, false] rfl rfl (any_of HT_.out (by kernel_rfl)) (fun _ _ _ h => h) (Or.inl ⟨by rfl, ?_⟩) ?_ ?_
                                      rotate_left
                                      · intro w'
                                        go_simp
                                        with_reducible rfl
                                      rotate_left
                                      · simp only [Act.put, List.setIfInBounds_toArray, List.set_cons_zero, List.set_cons_succ, i64_w, i32_w]
                                        rfl
                                      refine pure_ (i := 4) (N := some 130) (v := ?_) (a' := ?_) #[true, true, true, true, true, false, false, false, false, false, false, false, false, false, false, false, false, false, false] rfl rfl (any_of HT_.out (by kernel_rfl)) (fun _ _ _ h => h) (Or.inl ⟨by rfl, ?_⟩) ?_ ?_
                                      rotate_left
                                      · intro w'
                                        go_simp
                                        with_reducible rfl
                                      rotate_left
                                      · simp only [Act.put, List.setIfInBounds_toArray, List.set_cons_zero, List.set_cons_succ, i64_w, i32_w]
                                        rfl
                                      refine pure_ (i := 5) (N := some 131) (v := ?_) (a' := ?_) #[true, true, true, true, true, true, false, false, false, false, false, false, false, false, false, false, false, false, false] rfl rfl (any_of HT_.out (by kernel_rfl)) (fun _ _ _ h => h) (Or.inl ⟨by rfl, ?_⟩) ?_ ?_
                                      rotate_left
                                      · intro w'
                                        go_simp
                                        with_reducible rfl
                                      rotate_left
                                      · simp only [Act.put, List.setIfInBounds_toArray, List.set_cons_zero, List.set_cons_succ, i64_w, i32_w]
                                        rfl
                                      refine pure_ (i := 6) (N := some 132) (v := ?_) (a' := ?_) #[true, true, true, true, true, true, true, false, false, false, false, false, false, false, false, false, false, false, false] rfl rfl (any_of HT_.out (by kernel_rfl)) (fun _ _ _ h => h) (Or.inl ⟨by rfl, ?_⟩) ?_ ?_
                                      rotate_left
                                      · intro w'
                                        go_simp
                                        with_reducible rfl
                                      rotate_left
                                      · simp only [Act.put, List.setIfInBounds_toArray, List.set_cons_zero, List.set_cons_succ, i64_w, i32_w]
                                        rfl
                                      refine pure_ (i := 7) (N := some 133) (v := ?_) (a' := ?_) #[true, true, true, true, true, true, true, true, false, false, false, false, false, false, false, false, false, false, false] rfl rfl (any_of HT_.out (by kernel_rfl)) (fun _ _ _ h => h) (Or.inl ⟨by rfl, ?_⟩) ?_ ?_
                                      rotate_left
                                      · intro w'
                                        go_simp
                                        with_reducible rfl
                                      rotate_left
                                      · simp only [Act.put, List.setIfInBounds_toArray, List.set_cons_zero, List.set_cons_succ, i64_w, i32_w]
                                        rfl
                                      refine pure_ (i := 8) (N := some 134) (v := ?_) (a' := ?_) #[true, true, true, true, true, true, true, true, true, false, false, false, false, false, false, false, false, false, false] rfl rfl (any_of HT_.out (by kernel_rfl)) (fun _ _ _ h => h) (Or.inl ⟨by rfl, ?_⟩) ?_ ?_
                                      rotate_left
                                      · intro w'
                                        go_simp
                                        with_reducible rfl
                                      rotate_left
                                      · simp only [Act.put, List.setIfInBounds_toArray, List.set_cons_zero, List.set_cons_succ, i64_w, i32_w]
                                        rfl
                                      refine pure_ (i := 9) (N := some 135) (v := ?_) (a' := ?_) #[true, true, true, true, true, true, true, true, true, true, false, false, false, false, false, false, false, false, false] rfl rfl (any_of HT_.out (by kernel_rfl)) (fun _ _ _ h => h) (Or.inl ⟨by rfl, ?_⟩) ?_ ?_
                                      rotate_left
                                      · intro w'
                                        go_simp
                                        with_reducible rfl
                                      rotate_left
                                      · simp only [Act.put, List.setIfInBounds_toArray, List.set_cons_zero, List.set_cons_succ, i64_w, i32_w]
                                        rfl
                                      refine pure_ (i := 10) (N := some 136) (v := ?_) (a' := ?_) #[true, true, true, true, true, true, true, true, true, true, true, false, false, false, false, false, false, false, false] rfl rfl (any_of HT_.out (by kernel_rfl)) (fun _ _ _ h => h) (Or.inl ⟨by rfl, ?_⟩) ?_ ?_
                                      rotate_left
                                      · intro w'
                                        go_simp
                                        with_reducible rfl
                                      rotate_left
                                      · simp only [Act.put, List.setIfInBounds_toArray, List.set_cons_zero, List.set_cons_succ, i64_w, i32_w]
                                        rfl
                                      refine pure_ (i := 12) (N := some 138) (v := ?_) (a' := ?_) #[true, true, true, true, true, true, true, true, true, true, true, false, true, false, false, false, false, false, false] rfl rfl (any_of HT_.out (by kernel_rfl)) (fun _ _ _ h => h) (Or.inl ⟨by rfl, ?_⟩) ?_ ?_
                                      rotate_left
                                      · intro w'
                                        go_simp
                                        with_reducible rfl
                                      rotate_left
                                      · simp only [Act.put, List.setIfInBounds_toArray, List.set_cons_zero, List.set_cons_succ, i64_w, i32_w]
                                        rfl
                                      refine pure_ (i := 13) (N := some 139) (v := ?_) (a' := ?_) #[true, true, true, true, true, true, true, true, true, true, true, false, true, true, false, false, false, false, false] rfl rfl (any_of HT_.out (by kernel_rfl)) (fun _ _ _ h => h) (Or.inl ⟨by rfl, ?_⟩) ?_ ?_
                                      rotate_left
                                      · intro w'
                                        go_simp
                                        with_reducible rfl
                                      rotate_left
                                      · simp only [Act.put, List.setIfInBounds_toArray, List.set_cons_zero, List.set_cons_succ, i64_w, i32_w]
                                        rfl
                                      refine pure_ (i := 14) (N := some 140) (v := ?_) (a' := ?_) #[true, true, true, true, true, true, true, true, true, true, true, false, true, true, true, false, false, false, false] rfl rfl (any_of HT_.out (by kernel_rfl)) (fun _ _ _ h => h) (Or.inl ⟨by rfl, ?_⟩) ?_ ?_
                                      rotate_left
                                      · intro w'
                                        go_simp
                                        with_reducible rfl
                                      rotate_left
                                      · simp only [Act.put, List.setIfInBounds_toArray, List.set_cons_zero, List.set_cons_succ, i64_w, i32_w]
                                        rfl
                                      refine pure_ (i := 15) (N := some 141) (v := ?_) (a' := ?_) #[true, true, true, true, true, true, true, true, true, true, true, false, true, true, true, true, false, false, false] rfl rfl (any_of HT_.out (by kernel_rfl)) (fun _ _ _ h => h) (Or.inl ⟨by rfl, ?_⟩) ?_ ?_
                                      rotate_left
                                      · intro w'
                                        go_simp
                                        with_reducible rfl
                                      rotate_left
                                      · simp only [Act.put, List.setIfInBounds_toArray, List.set_cons_zero, List.set_cons_succ, i64_w, i32_w]
                                        rfl
                                      refine take_ (i := 11) (N := some 137) (v := ?_) (a' := ?_) #[true, true, true, true, true, true, true, true, true, true, true, true, true, true, true, true, false, false, false] rfl rfl (take_ofW HT_.out HW_.out (by kernel_rfl)) (fun _ _ _ h => h) (Or.inl ⟨by rfl, ?_⟩) hHeld ?_ ?_
                                      rotate_left
                                      · intro w' s0
                                        go_simp
                                        with_reducible rfl
                                      rotate_left
                                      · simp only [Act.put, List.setIfInBounds_toArray, List.set_cons_zero, List.set_cons_succ, i64_w, i32_w]
                                        rfl
                                      refine pure_ (i := 16) (N := some 142) (v := ?_) (a' := ?_) #[true, true, true, true, true, true, true, true, true, true, true, true, true, true, true, true, true, false, false] rfl rfl (any_of HT_.out (by kernel_rfl)) (fun _ _ _ h => h) (Or.inl ⟨by rfl, ?_⟩) ?_ ?_
                                      rotate_left
                                      · intro w'
                                        go_simp
                                        with_reducible rfl
                                      rotate_left
                                      · simp only [Act.put, List.setIfInBounds_toArray, List.set_cons_zero, List.set_cons_succ, i64_w, i32_w]
                                        rfl
                                      refine pure_ (i := 17) (N := some 143) (v := ?_) (a' := ?_) #[true, true, true, true, true, true, true, true, true, true, true, true, true, true, true, true, true, true, false] rfl rfl (any_of HT_.out (by kernel_rfl)) (fun _ _ _ h => h) (Or.inl ⟨by rfl, ?_⟩) ?_ ?_
                                      rotate_left
                                      · intro w'
                                        go_simp
                                        with_reducible rfl
                                      rotate_left
                                      · simp only [Act.put, List.setIfInBounds_toArray, List.set_cons_zero, List.set_cons_succ, i64_w, i32_w]
                                        rfl
                                      refine last_ (i := 18) (N := none) #[true, true, true, true, true, true, true, true, true, true, true, true, true, true, true, true, true, true, true] rfl rfl (one_of HT_.out (by kernel_rfl)) (by decide) (fun K hK => ?_)
                                      refine skip_ (w1 := ?_) (by rfl) rfl ?_ ?_
                                      rotate_left
                                      · go_simp
                                        rfl
                                      refine hK.out _ _ ?_
                                      clear hK K
                                      refine done_ (done_of HT_.out (by kernel_rfl)) ?_
                                      have n0_ : Aside0 (Kd.R (Kd.int .u8) 5 (w102.setCell ⟨go87, ((ji81) : Int).toNat, none⟩ (.int .u8 (Go.bits .xor .u8 (rd t363 (ji81)) (ji86)))) w.heap.size (fun k_ => some k_ ≠ (.slice (some ⟨go87, 0, none⟩) t363.length co103 : Value).ownBlock) u8 x8_2) := ⟨by (with_reducible repeat (first | apply Kd.R_alloc | apply Kd.R_drewN | apply Kd.R_drew)); exact Kd.R_mono (Kd.R_far (p := ⟨go87, ((ji81) : Int).toNat, none⟩) (Kd.R_mono HO_8.out (fun k_ hk => (⟨hk, fun e_ => hk.2 (by rw [e_]; rfl)⟩ : _ ∧ k_ ≠ go87))) (fun _ hk => hk.2) (.int .u8 (Go.bits .xor .u8 (rd t363 (ji81)) (ji86)))) (fun _ hk => hk.1.2)⟩
                                      have n1_ : Aside0 (Kd.R k25 25 (w102.setCell ⟨go87, ((ji81) : Int).toNat, none⟩ (.int .u8 (Go.bits .xor .u8 (rd t363 (ji81)) (ji86)))) w.heap.size (fun _ => True) (.slice (some ad362) x9_2.length co73) x9_2) := ⟨by (with_reducible repeat (first | apply Kd.R_alloc | apply Kd.R_drewN | apply Kd.R_drew)); exact Kd.R_mono (Kd.R_far (p := ⟨go87, ((ji81) : Int).toNat, none⟩) (Kd.R_types HO_9.out GG87.out (by decide)) (fun _ hk => hk.2) (.int .u8 (Go.bits .xor .u8 (rd t363 (ji81)) (ji86)))) (fun _ hk => trivial)⟩
                                      have n2_ : Aside0 (Kd.R (Kd.int .u8) 5 (w102.setCell ⟨go87, ((ji81) : Int).toNat, none⟩ (.int .u8 (Go.bits .xor .u8 (rd t363 (ji81)) (ji86)))) w.heap.size (fun k_ => some k_ ≠ (u8 : Value).ownBlock) (.slice (some ⟨go87, 0, none⟩) t363.length co103) y367) := ⟨by (with_reducible repeat (first | apply Kd.R_alloc | apply Kd.R_drewN | apply Kd.R_drew)); exact Kd.R_mono HQ104.out (fun _ hk => hk.2)⟩
                                      have n3_ : Aside0 (Below w.heap.size w (w102.setCell ⟨go87, ((ji81) : Int).toNat, none⟩ (.int .u8 (Go.bits .xor .u8 (rd t363 (ji81)) (ji86))))) := ⟨by repeat (first | (with_reducible first | exact HB.out | apply below_alloc | apply pw_below_drewN | apply below_drew1 | refine below_set ?_ GB87.out) | exact HB.out)⟩
                                      (try clear HO_8)
                                      (try clear HO_9)
                                      (try clear HO365)
                                      (try clear HB)
                                      generalize (w102.setCell ⟨go87, ((ji81) : Int).toNat, none⟩ (.int .u8 (Go.bits .xor .u8 (rd t363 (ji81)) (ji86)))) = w105 at n0_ n1_ n2_ n3_ ⊢
                                      have HO_8 := n0_
                                      have HO_9 := n1_
                                      have HO365 := n2_
                                      have HB := n3_
                                      clear n0_ n1_ n2_ n3_
                                      try go_wp2_with (first | ((with_reducible refine gate_callee (f := 25) rfl ?_); refine goesL_ (some 146) rfl rfl Try.func25 (by kernel_rfl) rfl #[.slice (some ⟨go87, 0, none⟩) y367.length co103] rfl (by (try simp only [List.map_toArray, List.map_cons, List.map_nil]); first | done | (rw [show y367.length = t363.length from (Kd.R_reads' HO365.out).1.symm] <;> rfl) | rfl | (simp only [List.length_drop, List.length_take]; rfl)) ?_; (with_reducible refine (record_Get.calls kj71 _ _ y367 t368 t369 t370 t371 t372 t373 t374 _ ?side1 ?side2 A88.out).mono ?_); (case side1 => repeat (first | exact (Kd.R_reads' HO365.out).2.2 | (with_reducible refine Kd.C_alloc ?_ _) | (with_reducible refine Kd.C_drewN ?_ _) | (with_reducible refine Kd.C_drew ?_))); (case side2 => rw [show y367.length = t363.length from (Kd.R_reads' HO365.out).1.symm]; exact (Kd.R_reads' HO365.out).2.1); rintro e w106 ⟨rfl, hb⟩; refine ⟨_, rfl, ?_⟩; have n0_ := Aside0.mk (Kd.R_below (by (with_reducible repeat (first | apply Kd.R_alloc | apply Kd.R_drewN | apply Kd.R_drew)); exact HO_8.out) hb); have n1_ := Aside0.mk (Kd.R_below (by (with_reducible repeat (first | apply Kd.R_alloc | apply Kd.R_drewN | apply Kd.R_drew)); exact HO_9.out) hb); have n2_ := Aside0.mk (Kd.R_below (by (with_reducible repeat (first | apply Kd.R_alloc | apply Kd.R_drewN | apply Kd.R_drew)); exact HO365.out) hb); have n3_ := Aside0.mk (below_step (by repeat (first | (with_reducible first | exact HB.out | apply below_alloc | apply pw_below_drewN | apply below_drew1) | exact HB.out)) hb); clear HO_8; clear HO_9; clear HO365; clear HB; have HO_8 := n0_; have HO_9 := n1_; have HO365 := n2_; have HB := n3_; clear n0_ n1_ n2_ n3_; (try clear hb); (try clear hb2); (try clear hk); (try clear hi)) | ((with_reducible refine gate_dst (N := 17) rfl ?_); (try (refine gate_guard (by rfl) ?_; dsimp only)); refine box_event ?hg (N := 17) ?hd (cs := #[.int .i64 0, .int .i64 0, .string (⟨#[]⟩ : ByteArray), .string (⟨#[]⟩ : ByteArray), .bool false]) (t := 25) ?hr ?_; (case hd => rfl); (case hg => rfl); (case hr => first | (go_simp; done) | (go_simp; rfl)); intro gb375 hg w107 hbox hb; have n0_ := Aside0.mk (Kd.R_below (by (with_reducible repeat (first | apply Kd.R_alloc | apply Kd.R_drewN | apply Kd.R_drew)); exact HO_8.out) hb); have n1_ := Aside0.mk (Kd.R_below (Kd.R_elderB (by (with_reducible repeat (first | apply Kd.R_alloc | apply Kd.R_drewN | apply Kd.R_drew)); exact HO_9.out) gb375 (Nat.le_of_eq hg.symm)) hb); have n2_ := Aside0.mk (Kd.R_below (by (with_reducible repeat (first | apply Kd.R_alloc | apply Kd.R_drewN | apply Kd.R_drew)); exact HO365.out) hb); have n3_ := Aside0.mk (below_step (by repeat (first | (with_reducible first | exact HB.out | apply below_alloc | apply pw_below_drewN | apply below_drew1) | exact HB.out)) hb); have n4_ := Aside0.mk (hbox); have n5_ := Aside0.mk ((by rw [hg]; exact (below_size (by repeat (first | (with_reducible first | exact HB.out | apply below_alloc | apply pw_below_drewN | apply below_drew1) | exact HB.out))) : w.heap.size ≤ gb375)); have n6_ := Aside0.mk ((by rw [hg]; exact (below_size (by repeat (first | (with_reducible first | exact HB.out | apply below_alloc | apply pw_below_drewN | apply below_drew1) | exact HB.out))) : w.heap.size ≤ gb375)); clear HO_8; clear HO_9; clear HO365; clear HB; have HO_8 := n0_; have HO_9 := n1_; have HO365 := n2_; have HB := n3_; have BK375 := n4_; have GW375 := n5_; have GE375 := n6_; clear n0_ n1_ n2_ n3_ n4_ n5_ n6_; clear hb hbox hg; have hcz108_0 : w107.cell? ⟨gb375, 0, none⟩ = some (.int .i64 0) := (blk_cell BK375.out 0).trans rfl; have hcz108_1 : w107.cell? ⟨gb375, 1, none⟩ = some (.int .i64 0) := (blk_cell BK375.out 1).trans rfl; have hcz108_2 : w107.cell? ⟨gb375, 2, none⟩ = some (.string (⟨#[]⟩ : ByteArray)) := (blk_cell BK375.out 2).trans rfl; have hcz108_3 : w107.cell? ⟨gb375, 3, none⟩ = some (.string (⟨#[]⟩ : ByteArray)) := (blk_cell BK375.out 3).trans rfl; have hcz108_4 : w107.cell? ⟨gb375, 4, none⟩ = some (.bool false) := (blk_cell BK375.out 4).trans rfl; have hfz108_0 := blk_frozen BK375.out 0; have hfz108_1 := blk_frozen BK375.out 1; have hfz108_2 := blk_frozen BK375.out 2; have hfz108_3 := blk_frozen BK375.out 3; have hfz108_4 := blk_frozen BK375.out 4))
                                      have n0_ : Aside0 (Kd.R (Kd.int .u8) 5 (((((w107.setCell ⟨gb375, 0, none⟩ (.int .i64 t368)).setCell ⟨gb375, 1, none⟩ (.int .i64 t369)).setCell ⟨gb375, 2, none⟩ (.string t370)).setCell ⟨gb375, 3, none⟩ (.string t371)).setCell ⟨gb375, 4, none⟩ (.bool t372)) w.heap.size (fun k_ => some k_ ≠ (.slice (some ⟨go87, 0, none⟩) t363.length co103 : Value).ownBlock) u8 x8_2) := ⟨by (with_reducible repeat (first | apply Kd.R_alloc | apply Kd.R_drewN | apply Kd.R_drew)); exact Kd.R_mono (Kd.R_far (p := ⟨gb375, 4, none⟩) (Kd.R_far (p := ⟨gb375, 3, none⟩) (Kd.R_far (p := ⟨gb375, 2, none⟩) (Kd.R_far (p := ⟨gb375, 1, none⟩) (Kd.R_far (p := ⟨gb375, 0, none⟩) (Kd.R_types HO_8.out BK375.out (by decide)) (fun _ hk => hk.2) (.int .i64 t368)) (fun _ hk => hk.2) (.int .i64 t369)) (fun _ hk => hk.2) (.string t370)) (fun _ hk => hk.2) (.string t371)) (fun _ hk => hk.2) (.bool t372)) (fun _ hk => hk.1)⟩
                                      have n1_ : Aside0 (Kd.R k25 25 (((((w107.setCell ⟨gb375, 0, none⟩ (.int .i64 t368)).setCell ⟨gb375, 1, none⟩ (.int .i64 t369)).setCell ⟨gb375, 2, none⟩ (.string t370)).setCell ⟨gb375, 3, none⟩ (.string t371)).setCell ⟨gb375, 4, none⟩ (.bool t372)) w.heap.size (fun k_ => k_ ≠ gb375) (.slice (some ad362) x9_2.length co73) x9_2) := ⟨by (with_reducible repeat (first | apply Kd.R_alloc | apply Kd.R_drewN | apply Kd.R_drew)); exact Kd.R_mono (Kd.R_far (p := ⟨gb375, 4, none⟩) (Kd.R_far (p := ⟨gb375, 3, none⟩) (Kd.R_far (p := ⟨gb375, 2, none⟩) (Kd.R_far (p := ⟨gb375, 1, none⟩) (Kd.R_far (p := ⟨gb375, 0, none⟩) (Kd.R_mono HO_9.out (fun k_ hk => (⟨hk, hk.2⟩ : _ ∧ k_ ≠ gb375))) (fun _ hk => hk.2) (.int .i64 t368)) (fun _ hk => hk.2) (.int .i64 t369)) (fun _ hk => hk.2) (.string t370)) (fun _ hk => hk.2) (.string t371)) (fun _ hk => hk.2) (.bool t372)) (fun _ hk => hk.1.2)⟩
                                      have n2_ : Aside0 (Kd.R (Kd.int .u8) 5 (((((w107.setCell ⟨gb375, 0, none⟩ (.int .i64 t368)).setCell ⟨gb375, 1, none⟩ (.int .i64 t369)).setCell ⟨gb375, 2, none⟩ (.string t370)).setCell ⟨gb375, 3, none⟩ (.string t371)).setCell ⟨gb375, 4, none⟩ (.bool t372)) w.heap.size (fun k_ => some k_ ≠ (u8 : Value).ownBlock) (.slice (some ⟨go87, 0, none⟩) t363.length co103) y367) := ⟨by (with_reducible repeat (first | apply Kd.R_alloc | apply Kd.R_drewN | apply Kd.R_drew)); exact Kd.R_mono (Kd.R_far (p := ⟨gb375, 4, none⟩) (Kd.R_far (p := ⟨gb375, 3, none⟩) (Kd.R_far (p := ⟨gb375, 2, none⟩) (Kd.R_far (p := ⟨gb375, 1, none⟩) (Kd.R_far (p := ⟨gb375, 0, none⟩) (Kd.R_types HO365.out BK375.out (by decide)) (fun _ hk => hk.2) (.int .i64 t368)) (fun _ hk => hk.2) (.int .i64 t369)) (fun _ hk => hk.2) (.string t370)) (fun _ hk => hk.2) (.string t371)) (fun _ hk => hk.2) (.bool t372)) (fun _ hk => hk.1)⟩
                                      have n3_ : Aside0 ((((((w107.setCell ⟨gb375, 0, none⟩ (.int .i64 t368)).setCell ⟨gb375, 1, none⟩ (.int .i64 t369)).setCell ⟨gb375, 2, none⟩ (.string t370)).setCell ⟨gb375, 3, none⟩ (.string t371)).setCell ⟨gb375, 4, none⟩ (.bool t372)).heap[gb375]? = some (.cells #[.int .i64 t368, .int .i64 t369, .string t370, .string t371, .bool t372] 25 (0, 0))) := ⟨by (with_reducible repeat (first | refine blk_drewN ?_ _ | refine blk_drew ?_ | refine blk_alloc ?_ _)); refine blk_put (cs := #[.int .i64 t368, .int .i64 t369, .string t370, .string t371, .bool false]) ?_ 4 _ rfl; (with_reducible repeat (first | refine blk_drewN ?_ _ | refine blk_drew ?_ | refine blk_alloc ?_ _)); refine blk_put (cs := #[.int .i64 t368, .int .i64 t369, .string t370, .string (⟨#[]⟩ : ByteArray), .bool false]) ?_ 3 _ rfl; (with_reducible repeat (first | refine blk_drewN ?_ _ | refine blk_drew ?_ | refine blk_alloc ?_ _)); refine blk_put (cs := #[.int .i64 t368, .int .i64 t369, .string (⟨#[]⟩ : ByteArray), .string (⟨#[]⟩ : ByteArray), .bool false]) ?_ 2 _ rfl; (with_reducible repeat (first | refine blk_drewN ?_ _ | refine blk_drew ?_ | refine blk_alloc ?_ _)); refine blk_put (cs := #[.int .i64 t368, .int .i64 0, .string (⟨#[]⟩ : ByteArray), .string (⟨#[]⟩ : ByteArray), .bool false]) ?_ 1 _ rfl; (with_reducible repeat (first | refine blk_drewN ?_ _ | refine blk_drew ?_ | refine blk_alloc ?_ _)); refine blk_put (cs := #[.int .i64 0, .int .i64 0, .string (⟨#[]⟩ : ByteArray), .string (⟨#[]⟩ : ByteArray), .bool false]) ?_ 0 _ rfl; (with_reducible repeat (first | refine blk_drewN ?_ _ | refine blk_drew ?_ | refine blk_alloc ?_ _)); exact BK375.out⟩
                                      have n4_ : Aside0 (Below w.heap.size w (((((w107.setCell ⟨gb375, 0, none⟩ (.int .i64 t368)).setCell ⟨gb375, 1, none⟩ (.int .i64 t369)).setCell ⟨gb375, 2, none⟩ (.string t370)).setCell ⟨gb375, 3, none⟩ (.string t371)).setCell ⟨gb375, 4, none⟩ (.bool t372))) := ⟨by repeat (first | (with_reducible first | exact HB.out | apply below_alloc | apply pw_below_drewN | apply below_drew1 | refine below_set ?_ GE375.out) | exact HB.out)⟩
                                      (try clear HO_8)
                                      (try clear HO_9)
                                      (try clear HO365)
                                      (try clear BK375)
                                      (try clear HB)
                                      generalize (((((w107.setCell ⟨gb375, 0, none⟩ (.int .i64 t368)).setCell ⟨gb375, 1, none⟩ (.int .i64 t369)).setCell ⟨gb375, 2, none⟩ (.string t370)).setCell ⟨gb375, 3, none⟩ (.string t371)).setCell ⟨gb375, 4, none⟩ (.bool t372)) = w109 at n0_ n1_ n2_ n3_ n4_ ⊢
                                      have HO_8 := n0_
                                      have HO_9 := n1_
                                      have HO365 := n2_
                                      have BK375 := n3_
                                      have HB := n4_
                                      clear n0_ n1_ n2_ n3_ n4_
                                      have n0_ := Aside0.mk (Kd.R_drew HO_8.out)
                                      have n1_ := Aside0.mk (Kd.R_drew HO_9.out)
                                      have n2_ := Aside0.mk (Kd.R_drew HO365.out)
                                      have n3_ := Aside0.mk (blk_drew BK375.out)
                                      have n4_ := Aside0.mk (below_drew1 HB.out)
                                      clear HO_8
                                      clear HO_9
                                      clear HO365
                                      clear BK375
                                      clear HB
                                      have HO_8 := n0_
                                      have HO_9 := n1_
                                      have HO365 := n2_
                                      have BK375 := n3_
                                      have HB := n4_
                                      clear n0_ n1_ n2_ n3_ n4_
                                      refine start_ (n := 11) (S := fun w' => True) (ds := []) #[false, false, false, false, false, false, false, false, false, false, false] (by kernel_rfl) rfl rfl trivial (fun hHeld => ?_); refine with_tabW cooperagelaw4_RecordRow.tab29 cooperagelaw4_RecordRow.bits29 (fun HT_ HW_ => ?_)
                                      generalize w109.drew = w110 at HO_8 HO_9 HO365 BK375 HB hHeld ⊢
                                      refine pure_ (i := 0) (N := some 150) (v := ?_) (a' := ?_) #[true, false, false, false, false, false, false, false, false, false, false] rfl rfl (any_of HT_.out (by kernel_rfl)) (fun _ _ _ h => h) (Or.inl ⟨by rfl, ?_⟩) ?_ ?_
                                      rotate_left
                                      · intro w'
                                        go_simp
                                        with_reducible rfl
                                      rotate_left
                                      · simp only [Act.put, List.setIfInBounds_toArray, List.set_cons_zero, List.set_cons_succ, i64_w, i32_w]
                                        rfl
                                      refine one_ (i := 1) (N := some 151) #[true, true, false, false, false, false, false, false, false, false, false] rfl rfl (one_of HT_.out (by kernel_rfl)) (by decide) (fun K hK => ?_)
                                      refine goes_ Try.func27 (by kernel_rfl) rfl #[.int .i64 t374] (by rfl) rfl rfl (by (try simp only [List.map_toArray, List.map_cons, List.map_nil]); first | done | rfl | (simp only [List.length_drop, List.length_take]; rfl)) ?_
                                      with_reducible refine (cooperagelaw4_num.calls t374 t376 _ A89.out).mono ?_
                                      rintro e w' ⟨rfl, ⟨nd, rfl⟩⟩
                                      refine ⟨_, rfl, ?_⟩
                                      refine hK.out _ _ trivial (fun hHeld => ?_)
                                      clear hK K
                                      refine norm_ (a' := ?_) ?_ ?_
                                      rotate_left
                                      · show Act.put _ (some 151) _ = _
                                        simp only [Act.put, List.setIfInBounds_toArray, List.set_cons_zero, List.set_cons_succ, i64_w, i32_w]
                                        rfl
                                      refine pure_ (i := 2) (N := some 152) (v := ?_) (a' := ?_) #[true, true, true, false, false, false, false, false, false, false, false] rfl rfl (any_of HT_.out (by kernel_rfl)) (fun _ _ _ h => h) (Or.inl ⟨by rfl, ?_⟩) ?_ ?_
                                      rotate_left
                                      · intro w'
                                        go_simp
                                        with_reducible rfl
                                      rotate_left
                                      · simp only [Act.put, List.setIfInBounds_toArray, List.set_cons_zero, List.set_cons_succ, i64_w, i32_w]
                                        rfl
                                      refine pure_ (i := 3) (N := some 153) (v := ?_) (a' := ?_) #[true, true, true, true, false, false, false, false, false, false, false] rfl rfl (any_of HT_.out (by kernel_rfl)) (fun _ _ _ h => h) (Or.inl ⟨by rfl, ?_⟩) ?_ ?_
                                      rotate_left
                                      · intro w'
                                        go_simp
                                        with_reducible rfl
                                      rotate_left
                                      · simp only [Act.put, List.setIfInBounds_toArray, List.set_cons_zero, List.set_cons_succ, i64_w, i32_w]
                                        rfl
                                      refine pure_ (i := 4) (N := some 154) (v := undef) (a' := ?_) #[true, true, true, true, true, false, false, false, false, false, false] rfl rfl (any_of HT_.out (by kernel_rfl)) (fun _ _ _ h => h) (Or.inr ⟨by rfl, rfl⟩) ?_ ?_
                                      rotate_left
                                      · simp only [Act.put, List.setIfInBounds_toArray, List.set_cons_zero, List.set_cons_succ, i64_w, i32_w]
                                        rfl
                                      refine pure_ (i := 5) (N := some 155) (v := undef) (a' := ?_) #[true, true, true, true, true, true, false, false, false, false, false] rfl rfl (any_of HT_.out (by kernel_rfl)) (fun _ _ _ h => h) (Or.inr ⟨by rfl, rfl⟩) ?_ ?_
                                      rotate_left
                                      · simp only [Act.put, List.setIfInBounds_toArray, List.set_cons_zero, List.set_cons_succ, i64_w, i32_w]
                                        rfl
                                      refine pure_ (i := 6) (N := some 156) (v := undef) (a' := ?_) #[true, true, true, true, true, true, true, false, false, false, false] rfl rfl (any_of HT_.out (by kernel_rfl)) (fun _ _ _ h => h) (Or.inr ⟨by rfl, rfl⟩) ?_ ?_
                                      rotate_left
                                      · simp only [Act.put, List.setIfInBounds_toArray, List.set_cons_zero, List.set_cons_succ, i64_w, i32_w]
                                        rfl
                                      refine pure_ (i := 7) (N := some 157) (v := undef) (a' := ?_) #[true, true, true, true, true, true, true, true, false, false, false] rfl rfl (any_of HT_.out (by kernel_rfl)) (fun _ _ _ h => h) (Or.inr ⟨by rfl, rfl⟩) ?_ ?_
                                      rotate_left
                                      · simp only [Act.put, List.setIfInBounds_toArray, List.set_cons_zero, List.set_cons_succ, i64_w, i32_w]
                                        rfl
                                      refine pure_ (i := 8) (N := some 158) (v := undef) (a' := ?_) #[true, true, true, true, true, true, true, true, true, false, false] rfl rfl (any_of HT_.out (by kernel_rfl)) (fun _ _ _ h => h) (Or.inr ⟨by rfl, rfl⟩) ?_ ?_
                                      rotate_left
                                      · simp only [Act.put, List.setIfInBounds_toArray, List.set_cons_zero, List.set_cons_succ, i64_w, i32_w]
                                        rfl
                                      refine pure_ (i := 9) (N := some 159) (v := ?_) (a' := ?_) #[true, true, true, true, true, true, true, true, true, true, false] rfl rfl (any_of HT_.out (by kernel_rfl)) (fun _ _ _ h => h) (Or.inl ⟨by rfl, ?_⟩) ?_ ?_
                                      rotate_left
                                      · intro w'
                                        go_simp
                                        with_reducible rfl
                                      rotate_left
                                      · simp only [Act.put, List.setIfInBounds_toArray, List.set_cons_zero, List.set_cons_succ, i64_w, i32_w]
                                        rfl
                                      refine pure_ (i := 10) (N := some 6) (v := ?_) (a' := ?_) #[true, true, true, true, true, true, true, true, true, true, true] rfl rfl (any_of HT_.out (by kernel_rfl)) (fun _ _ _ h => h) (Or.inl ⟨by rfl, ?_⟩) ?_ ?_
                                      rotate_left
                                      · intro w'
                                        go_simp
                                        with_reducible rfl
                                      rotate_left
                                      · simp only [Act.put, List.setIfInBounds_toArray, List.set_cons_zero, List.set_cons_succ, i64_w, i32_w]
                                        rfl
                                      refine done_ (done_of HT_.out (by kernel_rfl)) ?_
                                      try go_wp2
                                      go_ret
                                      exact ⟨by first | rfl | (simp [errW_none, errW_some] <;> rfl) | (simp only [← hji81, ← hji84, ← hji86]; first | rfl | (simp [errW_none, errW_some] <;> rfl)) | (simp [*, errW_none, errW_some] <;> rfl) | (simp [errW_none, errW_some]; generalize ByteArray.toList _ = l_; cases l_ <;> rfl), by repeat (first | (with_reducible first | exact HB.out | apply below_alloc | apply pw_below_drewN | apply below_drew1 | refine below_set ?_ GE375.out) | exact HB.out)⟩
                                  · rw [if_neg c85] at H
                                    exact absurd H (by simp)
                                · rw [if_neg c83] at H
                                  exact absurd H (by simp)
                              · rw [if_neg c82] at H
                                exact absurd H (by simp)
                          · rw [if_neg c78] at H
                            exact absurd H (by simp)

end Go.Proofs.Ytpafbpfcoacidaa.U

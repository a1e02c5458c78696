-- printed by a program of this session (a changed copy of the kit's printer; squeeze.py)
import Derived.Test.YtphnolgneojdhaaVx0
import Derived.Test.YtphnolgneojdhaaVx1
import Derived.Test.YtphnolgneojdhaaVx4
import Derived.Test.YtphnolgneojdhaaVx5
import Derived.Test.YtphnolgneojdhaaVx6
import Derived.Test.YtphnolgneojdhaaVx11
import Derived.Test.YtphnolgneojdhaaVx13
import Derived.Test.YtphnolgneojdhaaVx14
namespace Go.Proofs.Ytphnolgneojdhaa.V
open Go.RowKit Go.Proofs.YtphnolgneojdhaaW.PrintWords Go.Proofs.YtphnolgneojdhaaW.PrintLast Go.Proofs.YtphnolgneojdhaaW.PrintMore
attribute [local go_sem] max2_int min2_int max_two min_two max_three min_three max_four min_four   -- for this text's walks alone
set_option linter.unusedVariables false
set_option linter.unusedSimpArgs false
attribute [local go_sem high] eqA34
/-! ### cooperagelaw9_IndexFinds: function 10 -/
mutual
def cooperagelaw9_IndexFinds.j0 : Nat → List (S34) → List Int → Int → Int → Bool → Bool → Option (Bool)
  | 0, _, _, _, _, _, _ => none
  | k + 1, x0, x1, x2, x3, x9, x38 => if x38 = true then (some x9) else (cooperagelaw9_IndexFinds.l0 k x0 x1 x2 x3 ([] : List (S34)) 0 0)
def cooperagelaw9_IndexFinds.l0 : Nat → List (S34) → List Int → Int → Int → List (S34) → Int → Int → Option (Bool)
  | 0, _, _, _, _, _, _, _ => none
  | k + 1, x0, x1, x2, x3, x11, x12, x13 => if x13 < (x0.length : Int) then (if 0 ≤ x13 then (if x13 < (x1.length : Int) then ((cooperageref1_Right.f (wrap64 ((wrap64 (x12 + 1)) + (Go.bits .and .i64 (rd x1 x13) 7))) ((rd_T34 x0 x13).f1) ((rd_T34 x0 x13).f2) ((rd_T34 x0 x13).f3) ((rd_T34 x0 x13).f4)).bind fun t670 => (if t670 = true then (if x11.length < 2513169434916 then (cooperagelaw9_IndexFinds.l0 k x0 x1 x2 x3 (x11 ++ [(⟨wrap64 ((wrap64 (x12 + 1)) + (Go.bits .and .i64 (rd x1 x13) 7)), (rd_T34 x0 x13).f1, (rd_T34 x0 x13).f2, (rd_T34 x0 x13).f3, (rd_T34 x0 x13).f4⟩ : S34)]) (wrap64 ((wrap64 (x12 + 1)) + (Go.bits .and .i64 (rd x1 x13) 7))) (wrap64 (x13 + 1))) else (none)) else (cooperagelaw9_IndexFinds.l0 k x0 x1 x2 x3 x11 (wrap64 ((wrap64 (x12 + 1)) + (Go.bits .and .i64 (rd x1 x13) 7))) (wrap64 (x13 + 1))))) else (none)) else (none)) else ((cooperageref1_Bytes.f k x11).bind fun t674 => ((index_Make.f k x11 x2).bind fun t677 => ((index_Find.f k t674 t677 x3).bind fun bt680 => ((index_FindTime.f k t674 t677 x3).bind fun bt687 => (cooperagelaw9_IndexFinds.l1 k x3 x11 bt680.2.2.2.2.2 bt687.2.2.2.2.2 true true 0 bt680.1 bt680.2.1 bt680.2.2.1 bt680.2.2.2.1 bt680.2.2.2.2.1 bt687.1 bt687.2.1 bt687.2.2.1 bt687.2.2.2.1 bt687.2.2.2.2.1)))))
def cooperagelaw9_IndexFinds.l1 : Nat → Int → List (S34) → Bool → Bool → Bool → Bool → Int → Int → Int → ByteArray → ByteArray → Bool → Int → Int → ByteArray → ByteArray → Bool → Option (Bool)
  | 0, _, _, _, _, _, _, _, _, _, _, _, _, _, _, _, _, _ => none
  | k + 1, x3, x11, x18, x20, x21, x22, x23, x687000, x687001, x687002, x687003, x687004, x694000, x694001, x694002, x694003, x694004 => if x23 < (x11.length : Int) then (if x21 = true then (if 0 ≤ x23 then (cooperagelaw9_IndexFinds.j3 k x3 x11 x18 x20 x21 x22 x23 (decide (((rd_T34 x11 x23).f0) ≥ x3)) x687000 x687001 x687002 x687003 x687004 x694000 x694001 x694002 x694003 x694004) else (none)) else (cooperagelaw9_IndexFinds.j3 k x3 x11 x18 x20 x21 x22 x23 false x687000 x687001 x687002 x687003 x687004 x694000 x694001 x694002 x694003 x694004)) else (if (x18 == (!x21)) = true then (some (x20 == (!x22))) else (some false))
def cooperagelaw9_IndexFinds.j3 : Nat → Int → List (S34) → Bool → Bool → Bool → Bool → Int → Bool → Int → Int → ByteArray → ByteArray → Bool → Int → Int → ByteArray → ByteArray → Bool → Option (Bool)
  | 0, _, _, _, _, _, _, _, _, _, _, _, _, _, _, _, _, _, _ => none
  | k + 1, x3, x11, x18, x20, x21, x22, x23, x100, x687000, x687001, x687002, x687003, x687004, x694000, x694001, x694002, x694003, x694004 => if x100 = true then (if x18 = true then (if 0 ≤ x23 then (if x23 < (x11.length : Int) then (if (!(x687000 == ((rd_T34 x11 x23).f0)) || (!(x687001 == ((rd_T34 x11 x23).f1)) || (!(x687002.toList == (((rd_T34 x11 x23).f2).toList)) || (!(x687003.toList == (((rd_T34 x11 x23).f3).toList)) || (!(x687004 == ((rd_T34 x11 x23).f4))))))) = true then (some false) else (cooperagelaw9_IndexFinds.j4 k x3 x11 x18 x20 false x22 x23 x687000 x687001 x687002 x687003 x687004 x694000 x694001 x694002 x694003 x694004)) else (none)) else (none)) else (some false)) else (cooperagelaw9_IndexFinds.j4 k x3 x11 x18 x20 x21 x22 x23 x687000 x687001 x687002 x687003 x687004 x694000 x694001 x694002 x694003 x694004)
def cooperagelaw9_IndexFinds.j4 : Nat → Int → List (S34) → Bool → Bool → Bool → Bool → Int → Int → Int → ByteArray → ByteArray → Bool → Int → Int → ByteArray → ByteArray → Bool → Option (Bool)
  | 0, _, _, _, _, _, _, _, _, _, _, _, _, _, _, _, _, _ => none
  | k + 1, x3, x11, x18, x20, x21, x22, x23, x687000, x687001, x687002, x687003, x687004, x694000, x694001, x694002, x694003, x694004 => if x22 = true then (if 0 ≤ x23 then (if x23 < (x11.length : Int) then (cooperagelaw9_IndexFinds.j5 k x3 x11 x18 x20 x21 x22 x23 (decide (((rd_T34 x11 x23).f1) ≥ x3)) x687000 x687001 x687002 x687003 x687004 x694000 x694001 x694002 x694003 x694004) else (none)) else (none)) else (cooperagelaw9_IndexFinds.j5 k x3 x11 x18 x20 x21 x22 x23 false x687000 x687001 x687002 x687003 x687004 x694000 x694001 x694002 x694003 x694004)
def cooperagelaw9_IndexFinds.j5 : Nat → Int → List (S34) → Bool → Bool → Bool → Bool → Int → Bool → Int → Int → ByteArray → ByteArray → Bool → Int → Int → ByteArray → ByteArray → Bool → Option (Bool)
  | 0, _, _, _, _, _, _, _, _, _, _, _, _, _, _, _, _, _, _ => none
  | k + 1, x3, x11, x18, x20, x21, x22, x23, x120, x687000, x687001, x687002, x687003, x687004, x694000, x694001, x694002, x694003, x694004 => if x120 = true then (if x20 = true then (if 0 ≤ x23 then (if x23 < (x11.length : Int) then (if (!(x694000 == ((rd_T34 x11 x23).f0)) || (!(x694001 == ((rd_T34 x11 x23).f1)) || (!(x694002.toList == (((rd_T34 x11 x23).f2).toList)) || (!(x694003.toList == (((rd_T34 x11 x23).f3).toList)) || (!(x694004 == ((rd_T34 x11 x23).f4))))))) = true then (some false) else (cooperagelaw9_IndexFinds.l1 k x3 x11 x18 x20 x21 false (wrap64 (x23 + 1)) x687000 x687001 x687002 x687003 x687004 x694000 x694001 x694002 x694003 x694004)) else (none)) else (none)) else (some false)) else (cooperagelaw9_IndexFinds.l1 k x3 x11 x18 x20 x21 x22 (wrap64 (x23 + 1)) x687000 x687001 x687002 x687003 x687004 x694000 x694001 x694002 x694003 x694004)
end
def cooperagelaw9_IndexFinds.f (k : Nat) (l0 : List (S34)) (l1 : List Int) (a2 : Int) (a3 : Int) : Option (Bool) := (cooperagelaw9_alive.f k).bind fun t665 => ((cooperagelaw8_Big.f k l0).bind fun t666 => (if t665 = true then (if t666 = true then (cooperagelaw9_IndexFinds.j0 k l0 l1 a2 a3 t665 true) else (cooperagelaw9_IndexFinds.j0 k l0 l1 a2 a3 t665 (decide ((l1.length : Int) < (l0.length : Int))))) else (cooperagelaw9_IndexFinds.j0 k l0 l1 a2 a3 t665 true)))
theorem cooperagelaw9_IndexFinds.mono_l : ∀ k, (∀ y0 y1 y2 y3 y4 y5, LeO (cooperagelaw9_IndexFinds.j0 k y0 y1 y2 y3 y4 y5) (cooperagelaw9_IndexFinds.j0 (k + 1) y0 y1 y2 y3 y4 y5)) ∧ (∀ y0 y1 y2 y3 y4 y5 y6, LeO (cooperagelaw9_IndexFinds.l0 k y0 y1 y2 y3 y4 y5 y6) (cooperagelaw9_IndexFinds.l0 (k + 1) y0 y1 y2 y3 y4 y5 y6)) ∧ (∀ y0 y1 y2 y3 y4 y5 y6 y7 y8 y9 y10 y11 y12 y13 y14 y15 y16, LeO (cooperagelaw9_IndexFinds.l1 k y0 y1 y2 y3 y4 y5 y6 y7 y8 y9 y10 y11 y12 y13 y14 y15 y16) (cooperagelaw9_IndexFinds.l1 (k + 1) y0 y1 y2 y3 y4 y5 y6 y7 y8 y9 y10 y11 y12 y13 y14 y15 y16)) ∧ (∀ y0 y1 y2 y3 y4 y5 y6 y7 y8 y9 y10 y11 y12 y13 y14 y15 y16 y17, LeO (cooperagelaw9_IndexFinds.j3 k y0 y1 y2 y3 y4 y5 y6 y7 y8 y9 y10 y11 y12 y13 y14 y15 y16 y17) (cooperagelaw9_IndexFinds.j3 (k + 1) y0 y1 y2 y3 y4 y5 y6 y7 y8 y9 y10 y11 y12 y13 y14 y15 y16 y17)) ∧ (∀ y0 y1 y2 y3 y4 y5 y6 y7 y8 y9 y10 y11 y12 y13 y14 y15 y16, LeO (cooperagelaw9_IndexFinds.j4 k y0 y1 y2 y3 y4 y5 y6 y7 y8 y9 y10 y11 y12 y13 y14 y15 y16) (cooperagelaw9_IndexFinds.j4 (k + 1) y0 y1 y2 y3 y4 y5 y6 y7 y8 y9 y10 y11 y12 y13 y14 y15 y16)) ∧ (∀ y0 y1 y2 y3 y4 y5 y6 y7 y8 y9 y10 y11 y12 y13 y14 y15 y16 y17, LeO (cooperagelaw9_IndexFinds.j5 k y0 y1 y2 y3 y4 y5 y6 y7 y8 y9 y10 y11 y12 y13 y14 y15 y16 y17) (cooperagelaw9_IndexFinds.j5 (k + 1) y0 y1 y2 y3 y4 y5 y6 y7 y8 y9 y10 y11 y12 y13 y14 y15 y16 y17))
  | 0 => ⟨fun _ _ _ _ _ _ r h => by simp [cooperagelaw9_IndexFinds.j0] at h, fun _ _ _ _ _ _ _ r h => by simp [cooperagelaw9_IndexFinds.l0] at h, fun _ _ _ _ _ _ _ _ _ _ _ _ _ _ _ _ _ r h => by simp [cooperagelaw9_IndexFinds.l1] at h, fun _ _ _ _ _ _ _ _ _ _ _ _ _ _ _ _ _ _ r h => by simp [cooperagelaw9_IndexFinds.j3] at h, fun _ _ _ _ _ _ _ _ _ _ _ _ _ _ _ _ _ r h => by simp [cooperagelaw9_IndexFinds.j4] at h, fun _ _ _ _ _ _ _ _ _ _ _ _ _ _ _ _ _ _ r h => by simp [cooperagelaw9_IndexFinds.j5] at h⟩
  | k + 1 => by
    obtain ⟨ih0, ih1, ih2, ih3, ih4, ih5⟩ := cooperagelaw9_IndexFinds.mono_l k
    refine ⟨?_, ?_, ?_, ?_, ?_, ?_⟩
    · intro y0 y1 y2 y3 y4 y5
      unfold cooperagelaw9_IndexFinds.j0
      repeat' first
      | (with_reducible exact LeO.refl _)
      | (with_reducible exact LeO.none _)
      | (with_reducible refine LeO.ite ?_ ?_)
      | (with_reducible refine LeO.bind ?_ (fun _ => ?_))
      | exact ih0 _ _ _ _ _ _
      | exact ih1 _ _ _ _ _ _ _
      | exact ih2 _ _ _ _ _ _ _ _ _ _ _ _ _ _ _ _ _
      | exact ih3 _ _ _ _ _ _ _ _ _ _ _ _ _ _ _ _ _ _
      | exact ih4 _ _ _ _ _ _ _ _ _ _ _ _ _ _ _ _ _
      | exact ih5 _ _ _ _ _ _ _ _ _ _ _ _ _ _ _ _ _ _
      | exact cooperagelaw8_Big.mono _ _
      | exact cooperagelaw9_alive.mono _
      | exact cooperageref1_Bytes.mono _ _
      | exact index_Find.mono _ _ _ _
      | exact index_FindTime.mono _ _ _ _
      | exact index_Make.mono _ _ _
      | exact LeO.none _
      | refine LeO.ite ?_ ?_
      | refine LeO.bind ?_ (fun _ => ?_)
    · intro y0 y1 y2 y3 y4 y5 y6
      unfold cooperagelaw9_IndexFinds.l0
      repeat' first
      | (with_reducible exact LeO.refl _)
      | (with_reducible exact LeO.none _)
      | (with_reducible refine LeO.ite ?_ ?_)
      | (with_reducible refine LeO.bind ?_ (fun _ => ?_))
      | exact ih0 _ _ _ _ _ _
      | exact ih1 _ _ _ _ _ _ _
      | exact ih2 _ _ _ _ _ _ _ _ _ _ _ _ _ _ _ _ _
      | exact ih3 _ _ _ _ _ _ _ _ _ _ _ _ _ _ _ _ _ _
      | exact ih4 _ _ _ _ _ _ _ _ _ _ _ _ _ _ _ _ _
      | exact ih5 _ _ _ _ _ _ _ _ _ _ _ _ _ _ _ _ _ _
      | exact cooperagelaw8_Big.mono _ _
      | exact cooperagelaw9_alive.mono _
      | exact cooperageref1_Bytes.mono _ _
      | exact index_Find.mono _ _ _ _
      | exact index_FindTime.mono _ _ _ _
      | exact index_Make.mono _ _ _
      | exact LeO.none _
      | refine LeO.ite ?_ ?_
      | refine LeO.bind ?_ (fun _ => ?_)
    · intro y0 y1 y2 y3 y4 y5 y6 y7 y8 y9 y10 y11 y12 y13 y14 y15 y16
      unfold cooperagelaw9_IndexFinds.l1
      repeat' first
      | (with_reducible exact LeO.refl _)
      | (with_reducible exact LeO.none _)
      | (with_reducible refine LeO.ite ?_ ?_)
      | (with_reducible refine LeO.bind ?_ (fun _ => ?_))
      | exact ih0 _ _ _ _ _ _
      | exact ih1 _ _ _ _ _ _ _
      | exact ih2 _ _ _ _ _ _ _ _ _ _ _ _ _ _ _ _ _
      | exact ih3 _ _ _ _ _ _ _ _ _ _ _ _ _ _ _ _ _ _
      | exact ih4 _ _ _ _ _ _ _ _ _ _ _ _ _ _ _ _ _
      | exact ih5 _ _ _ _ _ _ _ _ _ _ _ _ _ _ _ _ _ _
      | exact cooperagelaw8_Big.mono _ _
      | exact cooperagelaw9_alive.mono _
      | exact cooperageref1_Bytes.mono _ _
      | exact index_Find.mono _ _ _ _
      | exact index_FindTime.mono _ _ _ _
      | exact index_Make.mono _ _ _
      | exact LeO.none _
      | refine LeO.ite ?_ ?_
      | refine LeO.bind ?_ (fun _ => ?_)
    · intro y0 y1 y2 y3 y4 y5 y6 y7 y8 y9 y10 y11 y12 y13 y14 y15 y16 y17
      unfold cooperagelaw9_IndexFinds.j3
      repeat' first
      | (with_reducible exact LeO.refl _)
      | (with_reducible exact LeO.none _)
      | (with_reducible refine LeO.ite ?_ ?_)
      | (with_reducible refine LeO.bind ?_ (fun _ => ?_))
      | exact ih0 _ _ _ _ _ _
      | exact ih1 _ _ _ _ _ _ _
      | exact ih2 _ _ _ _ _ _ _ _ _ _ _ _ _ _ _ _ _
      | exact ih3 _ _ _ _ _ _ _ _ _ _ _ _ _ _ _ _ _ _
      | exact ih4 _ _ _ _ _ _ _ _ _ _ _ _ _ _ _ _ _
      | exact ih5 _ _ _ _ _ _ _ _ _ _ _ _ _ _ _ _ _ _
      | exact cooperagelaw8_Big.mono _ _
      | exact cooperagelaw9_alive.mono _
      | exact cooperageref1_Bytes.mono _ _
      | exact index_Find.mono _ _ _ _
      | exact index_FindTime.mono _ _ _ _
      | exact index_Make.mono _ _ _
      | exact LeO.none _
      | refine LeO.ite ?_ ?_
      | refine LeO.bind ?_ (fun _ => ?_)
    · intro y0 y1 y2 y3 y4 y5 y6 y7 y8 y9 y10 y11 y12 y13 y14 y15 y16
      unfold cooperagelaw9_IndexFinds.j4
      repeat' first
      | (with_reducible exact LeO.refl _)
      | (with_reducible exact LeO.none _)
      | (with_reducible refine LeO.ite ?_ ?_)
      | (with_reducible refine LeO.bind ?_ (fun _ => ?_))
      | exact ih0 _ _ _ _ _ _
      | exact ih1 _ _ _ _ _ _ _
      | exact ih2 _ _ _ _ _ _ _ _ _ _ _ _ _ _ _ _ _
      | exact ih3 _ _ _ _ _ _ _ _ _ _ _ _ _ _ _ _ _ _
      | exact ih4 _ _ _ _ _ _ _ _ _ _ _ _ _ _ _ _ _
      | exact ih5 _ _ _ _ _ _ _ _ _ _ _ _ _ _ _ _ _ _
      | exact cooperagelaw8_Big.mono _ _
      | exact cooperagelaw9_alive.mono _
      | exact cooperageref1_Bytes.mono _ _
      | exact index_Find.mono _ _ _ _
      | exact index_FindTime.mono _ _ _ _
      | exact index_Make.mono _ _ _
      | exact LeO.none _
      | refine LeO.ite ?_ ?_
      | refine LeO.bind ?_ (fun _ => ?_)
    · intro y0 y1 y2 y3 y4 y5 y6 y7 y8 y9 y10 y11 y12 y13 y14 y15 y16 y17
      unfold cooperagelaw9_IndexFinds.j5
      repeat' first
      | (with_reducible exact LeO.refl _)
      | (with_reducible exact LeO.none _)
      | (with_reducible refine LeO.ite ?_ ?_)
      | (with_reducible refine LeO.bind ?_ (fun _ => ?_))
      | exact ih0 _ _ _ _ _ _
      | exact ih1 _ _ _ _ _ _ _
      | exact ih2 _ _ _ _ _ _ _ _ _ _ _ _ _ _ _ _ _
      | exact ih3 _ _ _ _ _ _ _ _ _ _ _ _ _ _ _ _ _ _
      | exact ih4 _ _ _ _ _ _ _ _ _ _ _ _ _ _ _ _ _
      | exact ih5 _ _ _ _ _ _ _ _ _ _ _ _ _ _ _ _ _ _
      | exact cooperagelaw8_Big.mono _ _
      | exact cooperagelaw9_alive.mono _
      | exact cooperageref1_Bytes.mono _ _
      | exact index_Find.mono _ _ _ _
      | exact index_FindTime.mono _ _ _ _
      | exact index_Make.mono _ _ _
      | exact LeO.none _
      | refine LeO.ite ?_ ?_
      | refine LeO.bind ?_ (fun _ => ?_)
theorem cooperagelaw9_IndexFinds.mono : ∀ a0 a1 a2 a3 k, LeO (cooperagelaw9_IndexFinds.f k a0 a1 a2 a3) (cooperagelaw9_IndexFinds.f (k + 1) a0 a1 a2 a3) := by
  intro a0 a1 a2 a3 k
  obtain ⟨ih0, ih1, ih2, ih3, ih4, ih5⟩ := cooperagelaw9_IndexFinds.mono_l k
  unfold cooperagelaw9_IndexFinds.f
  repeat' first
      | (with_reducible exact LeO.refl _)
      | (with_reducible exact LeO.none _)
      | (with_reducible refine LeO.ite ?_ ?_)
      | (with_reducible refine LeO.bind ?_ (fun _ => ?_))
      | exact ih0 _ _ _ _ _ _
      | exact ih1 _ _ _ _ _ _ _
      | exact ih2 _ _ _ _ _ _ _ _ _ _ _ _ _ _ _ _ _
      | exact ih3 _ _ _ _ _ _ _ _ _ _ _ _ _ _ _ _ _ _
      | exact ih4 _ _ _ _ _ _ _ _ _ _ _ _ _ _ _ _ _
      | exact ih5 _ _ _ _ _ _ _ _ _ _ _ _ _ _ _ _ _ _
      | exact cooperagelaw8_Big.mono _ _
      | exact cooperagelaw9_alive.mono _
      | exact cooperageref1_Bytes.mono _ _
      | exact index_Find.mono _ _ _ _
      | exact index_FindTime.mono _ _ _ _
      | exact index_Make.mono _ _ _
      | exact LeO.none _
      | refine LeO.ite ?_ ?_
      | refine LeO.bind ?_ (fun _ => ?_)
set_option maxHeartbeats 8000000 in
set_option maxRecDepth 100000 in
theorem cooperagelaw9_IndexFinds.calls (k : Nat) (A0 : Option Addr) (c0 : Nat) (l0 : List (S34)) (A1 : Option Addr) (c1 : Nat) (l1 : List Int) (a2 : Int) (a3 : Int) (r : Bool) (w : World) (hr0 : Kd.C k34 w A0 l0.length l0) (hc0 : l0.length ≤ c0) (hr1 : Kd.C (Kd.int .i64) w A1 l1.length l1) (hc1 : l1.length ≤ c1) (h : cooperagelaw9_IndexFinds.f k l0 l1 a2 a3 = some true) :
    Calls Try.prog 10 #[.slice A0 l0.length c0, .slice A1 l1.length c1, .int .i64 a2, .int .i64 a3] w fun e w' => e = .returned (.bool true) ∧ Below w.heap.size w w' := by
  have hu34 := Try.underlying34
  have HR0 := Aside0.mk hr0
  have HC0 := Aside0.mk hc0
  clear hr0 hc0
  have HR1 := Aside0.mk hr1
  have HC1 := Aside0.mk hc1
  clear hr1 hc1
  have HB := Aside0.mk (Below.refl w.heap.size w)
  have H : ((cooperagelaw9_alive.f k).bind fun t665 => ((cooperagelaw8_Big.f k l0).bind fun t666 => (if t665 = true then (if t666 = true then (cooperagelaw9_IndexFinds.j0 k l0 l1 a2 a3 t665 true) else (cooperagelaw9_IndexFinds.j0 k l0 l1 a2 a3 t665 (decide ((l1.length : Int) < (l0.length : Int))))) else (cooperagelaw9_IndexFinds.j0 k l0 l1 a2 a3 t665 true)))) = some true := h
  clear h
  replace H := Option.bind_eq_some_iff.mp H
  obtain ⟨t665, A50, H⟩ := H
  replace H : ((cooperagelaw8_Big.f k l0).bind fun t666 => (if t665 = true then (if t666 = true then (cooperagelaw9_IndexFinds.j0 k l0 l1 a2 a3 t665 true) else (cooperagelaw9_IndexFinds.j0 k l0 l1 a2 a3 t665 (decide ((l1.length : Int) < (l0.length : Int))))) else (cooperagelaw9_IndexFinds.j0 k l0 l1 a2 a3 t665 true))) = some true := H
  have A5 := Aside0.mk A50
  clear A50
  replace H := Option.bind_eq_some_iff.mp H
  obtain ⟨t666, A60, H⟩ := H
  replace H : (if t665 = true then (if t666 = true then (cooperagelaw9_IndexFinds.j0 k l0 l1 a2 a3 t665 true) else (cooperagelaw9_IndexFinds.j0 k l0 l1 a2 a3 t665 (decide ((l1.length : Int) < (l0.length : Int))))) else (cooperagelaw9_IndexFinds.j0 k l0 l1 a2 a3 t665 true)) = some true := H
  have A6 := Aside0.mk A60
  clear A60
  have HC7 := Aside0.mk H
  clear H
  go_enter Try.func10, Try.ntmps10
  go_upto_region 3 with (first | (go_at_call 11; (with_reducible refine (cooperagelaw9_alive.calls k  t665 _ A5.out).mono ?_); rintro e w8 ⟨rfl, hb⟩; have n0_ := Aside0.mk (vT (by repeat (first | (with_reducible first | exact HB.out | apply vA | apply vN | apply vD) | exact HB.out)) hb); clear HB; have HB := n0_; clear n0_; (try clear hb); (try clear hb2); (try clear hk); (try clear hi)) | (go_at_call 12; (with_reducible refine (cooperagelaw8_Big.calls k _ _ l0 t666 _ ?side1 ?side2 A6.out).mono ?_); (case side1 => repeat (first | exact (Kd.C_below HR0.out HB.out) | (with_reducible refine Kd.C_alloc ?_ _) | (with_reducible refine Kd.C_drewN ?_ _) | (with_reducible refine Kd.C_drew ?_))); (case side2 => exact HC0.out); rintro e w' ⟨rfl, ⟨nd, rfl⟩⟩; (try first | exact ⟨rfl, _, World.drewN_drewN _ _ _⟩ | exact ⟨rfl, _, Eq.trans (World.drewN_drewN _ _ _) (congrArg (World.drewN _) (Nat.add_assoc _ _ _))⟩)))
  repeat (go_quiet (first | (go_at_call 11; (with_reducible refine (cooperagelaw9_alive.calls k  t665 _ A5.out).mono ?_); rintro e w8 ⟨rfl, hb⟩; have n0_ := Aside0.mk (vT (by repeat (first | (with_reducible first | exact HB.out | apply vA | apply vN | apply vD) | exact HB.out)) hb); clear HB; have HB := n0_; clear n0_; (try clear hb); (try clear hb2); (try clear hk); (try clear hi)) | (go_at_call 12; (with_reducible refine (cooperagelaw8_Big.calls k _ _ l0 t666 _ ?side1 ?side2 A6.out).mono ?_); (case side1 => repeat (first | exact (Kd.C_below HR0.out HB.out) | (with_reducible refine Kd.C_alloc ?_ _) | (with_reducible refine Kd.C_drewN ?_ _) | (with_reducible refine Kd.C_drew ?_))); (case side2 => exact HC0.out); rintro e w' ⟨rfl, ⟨nd, rfl⟩⟩; (try first | exact ⟨rfl, _, World.drewN_drewN _ _ _⟩ | exact ⟨rfl, _, Eq.trans (World.drewN_drewN _ _ _) (congrArg (World.drewN _) (Nat.add_assoc _ _ _))⟩))); go_upto_region 3 with (first | (go_at_call 11; (with_reducible refine (cooperagelaw9_alive.calls k  t665 _ A5.out).mono ?_); rintro e w8 ⟨rfl, hb⟩; have n0_ := Aside0.mk (vT (by repeat (first | (with_reducible first | exact HB.out | apply vA | apply vN | apply vD) | exact HB.out)) hb); clear HB; have HB := n0_; clear n0_; (try clear hb); (try clear hb2); (try clear hk); (try clear hi)) | (go_at_call 12; (with_reducible refine (cooperagelaw8_Big.calls k _ _ l0 t666 _ ?side1 ?side2 A6.out).mono ?_); (case side1 => repeat (first | exact (Kd.C_below HR0.out HB.out) | (with_reducible refine Kd.C_alloc ?_ _) | (with_reducible refine Kd.C_drewN ?_ _) | (with_reducible refine Kd.C_drew ?_))); (case side2 => exact HC0.out); rintro e w' ⟨rfl, ⟨nd, rfl⟩⟩; (try first | exact ⟨rfl, _, World.drewN_drewN _ _ _⟩ | exact ⟨rfl, _, Eq.trans (World.drewN_drewN _ _ _) (congrArg (World.drewN _) (Nat.add_assoc _ _ _))⟩))))
  (try simp only [Act.put, List.setIfInBounds_toArray, List.set_cons_zero, List.set_cons_succ])
  go_cut [38] (fun v38 wc => ∃ (kq : Nat) (x38_6 : Bool), v38 = .bool x38_6 ∧ Aside0 (cooperagelaw9_IndexFinds.j0 kq l0 l1 a2 a3 t665 x38_6 = some true) ∧ Aside0 (kq ≤ k) ∧ Aside0 (Below w.heap.size w wc))
  case first =>
    have H := HC7.out
    clear HC7
    by_cases c9 : t665 = true
    · subst c9
      have H1 : (if t666 = true then (cooperagelaw9_IndexFinds.j0 k l0 l1 a2 a3 true true) else (cooperagelaw9_IndexFinds.j0 k l0 l1 a2 a3 true (decide ((l1.length : Int) < (l0.length : Int))))) = some true := by rw [if_pos rfl] at H; exact H
      clear H
      have H := H1
      clear H1
      by_cases c10 : t666 = true
      · subst c10
        have H1 : (cooperagelaw9_IndexFinds.j0 k l0 l1 a2 a3 true true) = some true := by rw [if_pos rfl] at H; exact H
        clear H
        have H := H1
        clear H1
        have H' := Aside0.mk H
        clear H
        go_wp2
        repeat (go_quiet (fail); try go_wp2)
        go_meet
        case rel => exact ⟨_, (true), (by first | rfl | (simp; done) | (simp [*]; done)), H', ⟨by first | omega | exact Nat.le_refl _⟩, ⟨by repeat (first | (with_reducible first | exact HB.out | apply vA | apply vN | apply vD) | exact HB.out)⟩⟩
      · replace c10 := Bool.eq_false_iff.mpr c10
        subst c10
        have H1 : (cooperagelaw9_IndexFinds.j0 k l0 l1 a2 a3 true (decide ((l1.length : Int) < (l0.length : Int)))) = some true := by rw [if_neg (show ¬ (false = true) by decide)] at H; exact H
        clear H
        have H := H1
        clear H1
        have H' := Aside0.mk H
        clear H
        go_wp2
        repeat (go_quiet (fail); try go_wp2)
        go_meet
        case rel => exact ⟨_, (decide ((l1.length : Int) < (l0.length : Int))), (by first | rfl | (simp; done) | (simp [*]; done)), H', ⟨by first | omega | exact Nat.le_refl _⟩, ⟨by repeat (first | (with_reducible first | exact HB.out | apply vA | apply vN | apply vD) | exact HB.out)⟩⟩
    · replace c9 := Bool.eq_false_iff.mpr c9
      subst c9
      have H1 : (cooperagelaw9_IndexFinds.j0 k l0 l1 a2 a3 false true) = some true := by rw [if_neg (show ¬ (false = true) by decide)] at H; exact H
      clear H
      have H := H1
      clear H1
      have H' := Aside0.mk H
      clear H
      go_wp2
      repeat (go_quiet (fail); try go_wp2)
      go_meet
      case rel => exact ⟨_, (true), (by first | rfl | (simp; done) | (simp [*]; done)), H', ⟨by first | omega | exact Nat.le_refl _⟩, ⟨by repeat (first | (with_reducible first | exact HB.out | apply vA | apply vN | apply vD) | exact HB.out)⟩⟩
  case rest =>
    clear HC7
    try clear c1
    try clear p2
    try clear c9
    try clear c10
    obtain ⟨kq, x38_6, rfl, HA, HJ6, HB⟩ := hcut
    cases kq with
    | zero => exact absurd HA.out (by simp [cooperagelaw9_IndexFinds.j0])
    | succ kj6 =>
      have H := HA.out
      clear HA
      simp only [cooperagelaw9_IndexFinds.j0] at H
      by_cases c11 : x38_6 = true
      · subst c11
        have H1 : (some t665) = some true := by rw [if_pos rfl] at H; exact H
        clear H
        have H := H1
        clear H1
        have hH_ := Option.some.inj H; (try subst hH_)
        go_wp2
        repeat (go_quiet (fail); try go_wp2)
        go_ret
        exact ⟨by first | rfl | (simp [*, eN, eS] <;> rfl) | (simp [eN, eS]; generalize ByteArray.toList _ = l_; cases l_ <;> rfl), by repeat (first | (with_reducible first | exact HB.out | apply vA | apply vN | apply vD) | exact HB.out)⟩
      · replace c11 := Bool.eq_false_iff.mpr c11
        subst c11
        have H1 : (cooperagelaw9_IndexFinds.l0 kj6 l0 l1 a2 a3 ([] : List (S34)) 0 0) = some true := by rw [if_neg (show ¬ (false = true) by decide)] at H; exact H
        clear H
        have H := H1
        clear H1
        have H' := Aside0.mk H
        clear H
        go_wp2
        repeat (go_quiet (fail); try go_wp2)
        go_loopg [11, 12, 13] kj6 (fun kq v11 v12 v13 w' => ∃ (x11_2 : List (S34)) (x12_2 : Int) (x13_2 : Int), v12 = .int .i64 x12_2 ∧ v13 = .int .i64 x13_2 ∧ Aside0 (cooperagelaw9_IndexFinds.l0 kq l0 l1 a2 a3 x11_2 x12_2 x13_2 = some true) ∧ Aside0 (kq ≤ kj6) ∧ Aside0 (Kd.R k34 34 w' w.heap.size (fun _ => True) v11 x11_2) ∧ Aside0 (Below w.heap.size w w'))
        case atStart => exact ⟨(([] : List (S34))), (0), (0), (by first | rfl | (simp; done) | (simp [*]; done)), (by first | rfl | (simp; done) | (simp [*]; done)), H', ⟨Nat.le_refl _⟩, ⟨by first | exact Kd.R_nil _ _ _ _ _ | exact Kd.N_nil _ _ _ _ _ | exact Kd.V_nil _ _ _ _ _ | exact Kd.Q_nil _ _ _ _ _ | exact Kd.S_nil _ _ _ _ _⟩, ⟨by repeat (first | (with_reducible first | exact HB.out | apply vA | apply vN | apply vD) | exact HB.out)⟩⟩
        case round =>
          clear H'
          try clear c1
          try clear p2
          try clear c9
          try clear c10
          try clear c11
          try clear p2
          obtain ⟨x11_2, x12_2, x13_2, rfl, rfl, HA, HK2, HO_11, HB⟩ := hrel
          cases gk with
          | zero => exact absurd HA.out (by simp [cooperagelaw9_IndexFinds.l0])
          | succ k2 =>
            have H := HA.out
            clear HA
            simp only [cooperagelaw9_IndexFinds.l0] at H
            by_cases c12 : x13_2 < (l0.length : Int)
            · rw [if_pos c12] at H
              have c12b0 : decide (x13_2 < (l0.length : Int)) = true := decide_eq_true c12
              clear c12
              by_cases c13 : 0 ≤ x13_2
              · rw [if_pos c13] at H
                have c13b0 : decide (0 ≤ x13_2) = true := decide_eq_true c13
                clear c13
                by_cases c14 : x13_2 < (l1.length : Int)
                · rw [if_pos c14] at H
                  have c14b0 : decide (x13_2 < (l1.length : Int)) = true := decide_eq_true c14
                  clear c14
                  replace H := Option.bind_eq_some_iff.mp H
                  obtain ⟨t670, A150, H⟩ := H
                  replace H : (if t670 = true then (if x11_2.length < 2513169434916 then (cooperagelaw9_IndexFinds.l0 k2 l0 l1 a2 a3 (x11_2 ++ [(⟨wrap64 ((wrap64 (x12_2 + 1)) + (Go.bits .and .i64 (rd l1 x13_2) 7)), (rd_T34 l0 x13_2).f1, (rd_T34 l0 x13_2).f2, (rd_T34 l0 x13_2).f3, (rd_T34 l0 x13_2).f4⟩ : S34)]) (wrap64 ((wrap64 (x12_2 + 1)) + (Go.bits .and .i64 (rd l1 x13_2) 7))) (wrap64 (x13_2 + 1))) else (none)) else (cooperagelaw9_IndexFinds.l0 k2 l0 l1 a2 a3 x11_2 (wrap64 ((wrap64 (x12_2 + 1)) + (Go.bits .and .i64 (rd l1 x13_2) 7))) (wrap64 (x13_2 + 1)))) = some true := H
                  have A15 := Aside0.mk A150
                  clear A150
                  by_cases c16 : t670 = true
                  · subst c16
                    have H1 : (if x11_2.length < 2513169434916 then (cooperagelaw9_IndexFinds.l0 k2 l0 l1 a2 a3 (x11_2 ++ [(⟨wrap64 ((wrap64 (x12_2 + 1)) + (Go.bits .and .i64 (rd l1 x13_2) 7)), (rd_T34 l0 x13_2).f1, (rd_T34 l0 x13_2).f2, (rd_T34 l0 x13_2).f3, (rd_T34 l0 x13_2).f4⟩ : S34)]) (wrap64 ((wrap64 (x12_2 + 1)) + (Go.bits .and .i64 (rd l1 x13_2) 7))) (wrap64 (x13_2 + 1))) else (none)) = some true := by rw [if_pos rfl] at H; exact H
                    clear H
                    have H := H1
                    clear H1
                    by_cases c17 : x11_2.length < 2513169434916
                    · rw [if_pos c17] at H
                      have LMc17 := Aside0.mk c17
                      clear c17
                      obtain ⟨y671, hy671⟩ : ∃ y_ : List (S34), y_ = (x11_2 ++ [(⟨wrap64 ((wrap64 (x12_2 + 1)) + (Go.bits .and .i64 (rd l1 x13_2) 7)), (rd_T34 l0 x13_2).f1, (rd_T34 l0 x13_2).f2, (rd_T34 l0 x13_2).f3, (rd_T34 l0 x13_2).f4⟩ : S34)]) := ⟨_, rfl⟩
                      replace H : (cooperagelaw9_IndexFinds.l0 k2 l0 l1 a2 a3 y671 (wrap64 ((wrap64 (x12_2 + 1)) + (Go.bits .and .i64 (rd l1 x13_2) 7))) (wrap64 (x13_2 + 1))) = some true := by first | (rw [hy671]; with_reducible exact H) | (have H2_ := (Option.bind_some _ _).symm.trans H; rw [hy671]; with_reducible exact H2_) | (have H2_ := (Option.bind_some _ _).symm.trans H; with_reducible exact H2_) | with_reducible exact H | (rw [hy671]; exact H) | exact H
                      have Ny671 := Aside0.mk hy671
                      clear hy671
                      have H' := Aside0.mk H
                      clear H
                      have p667 : 0 ≤ (x13_2 : Int) := of_decide_eq_true (by first | (with_reducible assumption) | assumption)
                      have q667 : x13_2 < (l0.length : Int) := of_decide_eq_true (by first | (with_reducible assumption) | assumption)
                      obtain ⟨ad667, e667, hx667_0, hx667_1, hx667_2, hx667_3, hx667_4⟩ := at_T34 HR0.out x13_2 p667 q667
                      cases e667
                      replace hx667_0 := (HB.out.cell (World.block_lt_of_cell? w _ hx667_0)).trans hx667_0
                      replace hx667_1 := (HB.out.cell (World.block_lt_of_cell? w _ hx667_1)).trans hx667_1
                      replace hx667_2 := (HB.out.cell (World.block_lt_of_cell? w _ hx667_2)).trans hx667_2
                      replace hx667_3 := (HB.out.cell (World.block_lt_of_cell? w _ hx667_3)).trans hx667_3
                      replace hx667_4 := (HB.out.cell (World.block_lt_of_cell? w _ hx667_4)).trans hx667_4
                      replace p667 := eq_true p667
                      replace q667 := eq_true q667
                      go_wp2_with (first | ((with_reducible refine gate_dst (N := 14) rfl ?_); (try (refine gate_guard (by rfl) ?_; dsimp only)); refine box_event ?hg (N := 14) ?hd (cs := #[.int .i64 0, .int .i64 0, .string (⟨#[]⟩ : ByteArray), .string (⟨#[]⟩ : ByteArray), .bool false]) (t := 34) ?hr ?_; (case hd => rfl); (case hg => rfl); (case hr => first | (go_simp; done) | (go_simp; rfl)); intro gb668 hg w18 hbox hb; have n0_ := Aside0.mk (Kd.RB (Kd.R_elderB (by (with_reducible repeat (first | apply Kd.RA | apply Kd.RN | apply Kd.RD)); exact HO_11.out) gb668 (Nat.le_of_eq hg.symm)) hb); have n1_ := Aside0.mk (vT (by repeat (first | (with_reducible first | exact HB.out | apply vA | apply vN | apply vD) | exact HB.out)) hb); have n2_ := Aside0.mk (hbox); have n3_ := Aside0.mk ((by rw [hg]; exact (vZ (by repeat (first | (with_reducible first | exact HB.out | apply vA | apply vN | apply vD) | exact HB.out))) : w.heap.size ≤ gb668)); have n4_ := Aside0.mk ((by rw [hg]; exact (vZ (by repeat (first | (with_reducible first | exact HB.out | apply vA | apply vN | apply vD) | exact HB.out))) : w.heap.size ≤ gb668)); clear HO_11; clear HB; have HO_11 := n0_; have HB := n1_; have BK668 := n2_; have GW668 := n3_; have GE668 := n4_; clear n0_ n1_ n2_ n3_ n4_; clear hb hbox hg; have hcz19_0 : w18.cell? ⟨gb668, 0, none⟩ = some (.int .i64 0) := (bC BK668.out 0).trans rfl; have hcz19_1 : w18.cell? ⟨gb668, 1, none⟩ = some (.int .i64 0) := (bC BK668.out 1).trans rfl; have hcz19_2 : w18.cell? ⟨gb668, 2, none⟩ = some (.string (⟨#[]⟩ : ByteArray)) := (bC BK668.out 2).trans rfl; have hcz19_3 : w18.cell? ⟨gb668, 3, none⟩ = some (.string (⟨#[]⟩ : ByteArray)) := (bC BK668.out 3).trans rfl; have hcz19_4 : w18.cell? ⟨gb668, 4, none⟩ = some (.bool false) := (bC BK668.out 4).trans rfl; have hfz19_0 := bF BK668.out 0; have hfz19_1 := bF BK668.out 1; have hfz19_2 := bF BK668.out 2; have hfz19_3 := bF BK668.out 3; have hfz19_4 := bF BK668.out 4; have p669 : 0 ≤ (x13_2 : Int) := of_decide_eq_true (by first | (with_reducible assumption) | assumption); have q669 : x13_2 < (l1.length : Int) := of_decide_eq_true (by first | (with_reducible assumption) | assumption); obtain ⟨ad669, e669, hx669_0⟩ := Kd.at_int HR1.out x13_2 p669 q669; cases e669; have hn669_0 : ad669.block ≠ gb668 := Nat.ne_of_lt (Nat.lt_of_lt_of_le (by have := World.block_lt_of_cell? _ _ hx669_0; first | rwa [add_block] at this | exact this) GW668.out); have hn669_1 : ad669.block ≠ gb668 := Nat.ne_of_lt (Nat.lt_of_lt_of_le (by have := World.block_lt_of_cell? _ _ hx669_0; first | rwa [add_block] at this | exact this) GW668.out); have hn669_2 : ad669.block ≠ gb668 := Nat.ne_of_lt (Nat.lt_of_lt_of_le (by have := World.block_lt_of_cell? _ _ hx669_0; first | rwa [add_block] at this | exact this) GW668.out); have hn669_3 : ad669.block ≠ gb668 := Nat.ne_of_lt (Nat.lt_of_lt_of_le (by have := World.block_lt_of_cell? _ _ hx669_0; first | rwa [add_block] at this | exact this) GW668.out); have hn669_4 : ad669.block ≠ gb668 := Nat.ne_of_lt (Nat.lt_of_lt_of_le (by have := World.block_lt_of_cell? _ _ hx669_0; first | rwa [add_block] at this | exact this) GW668.out); replace hx669_0 := (HB.out.cell (World.block_lt_of_cell? w _ hx669_0)).trans hx669_0; replace hx669_0 := (cell_far (p := ⟨gb668, 0, none⟩) (by first | (rw [add_block]; exact hn669_0) | (show (Addr.add _ _).block ≠ _; rw [add_block]; exact hn669_0) | exact hn669_0) (.int .i64 ((rd_T34 l0 x13_2).f0))).trans hx669_0; replace hx669_0 := (cell_far (p := ⟨gb668, 1, none⟩) (by first | (rw [add_block]; exact hn669_1) | (show (Addr.add _ _).block ≠ _; rw [add_block]; exact hn669_1) | exact hn669_1) (.int .i64 ((rd_T34 l0 x13_2).f1))).trans hx669_0; replace hx669_0 := (cell_far (p := ⟨gb668, 2, none⟩) (by first | (rw [add_block]; exact hn669_2) | (show (Addr.add _ _).block ≠ _; rw [add_block]; exact hn669_2) | exact hn669_2) (.string ((rd_T34 l0 x13_2).f2))).trans hx669_0; replace hx669_0 := (cell_far (p := ⟨gb668, 3, none⟩) (by first | (rw [add_block]; exact hn669_3) | (show (Addr.add _ _).block ≠ _; rw [add_block]; exact hn669_3) | exact hn669_3) (.string ((rd_T34 l0 x13_2).f3))).trans hx669_0; replace hx669_0 := (cell_far (p := ⟨gb668, 4, none⟩) (by first | (rw [add_block]; exact hn669_4) | (show (Addr.add _ _).block ≠ _; rw [add_block]; exact hn669_4) | exact hn669_4) (.bool ((rd_T34 l0 x13_2).f4))).trans hx669_0; (try have hy669_0 := fun (n_ : Nat) => (show (((((((w18.drewN n_).setCell ⟨gb668, 0, none⟩ (.int .i64 ((rd_T34 l0 x13_2).f0))).setCell ⟨gb668, 1, none⟩ (.int .i64 ((rd_T34 l0 x13_2).f1))).setCell ⟨gb668, 2, none⟩ (.string ((rd_T34 l0 x13_2).f2))).setCell ⟨gb668, 3, none⟩ (.string ((rd_T34 l0 x13_2).f3))).setCell ⟨gb668, 4, none⟩ (.bool ((rd_T34 l0 x13_2).f4)))).cell? _ = some _ from hx669_0)); clear hn669_0; clear hn669_1; clear hn669_2; clear hn669_3; clear hn669_4; replace p669 := eq_true p669; replace q669 := eq_true q669) | (go_at_call 16; (with_reducible refine (cooperageref1_Right.calls (wrap64 ((wrap64 (x12_2 + 1)) + (Go.bits .and .i64 (rd l1 x13_2) 7))) ((rd_T34 l0 x13_2).f1) ((rd_T34 l0 x13_2).f2) ((rd_T34 l0 x13_2).f3) ((rd_T34 l0 x13_2).f4) true _ A15.out).mono ?_); rintro e w20 ⟨rfl, hb⟩; have n0_ := Aside0.mk (Kd.RB (by (with_reducible repeat (first | apply Kd.RA | apply Kd.RN | apply Kd.RD)); exact (Kd.RM (Kd.RF (p := ⟨gb668, 0, none⟩) (Kd.RF (p := ⟨gb668, 4, none⟩) (Kd.RF (p := ⟨gb668, 3, none⟩) (Kd.RF (p := ⟨gb668, 2, none⟩) (Kd.RF (p := ⟨gb668, 1, none⟩) (Kd.RF (p := ⟨gb668, 0, none⟩) (Kd.RM HO_11.out (fun k_ hk => (⟨hk, hk.2⟩ : _ ∧ k_ ≠ gb668))) (fun _ hk => hk.2) (.int .i64 ((rd_T34 l0 x13_2).f0))) (fun _ hk => hk.2) (.int .i64 ((rd_T34 l0 x13_2).f1))) (fun _ hk => hk.2) (.string ((rd_T34 l0 x13_2).f2))) (fun _ hk => hk.2) (.string ((rd_T34 l0 x13_2).f3))) (fun _ hk => hk.2) (.bool ((rd_T34 l0 x13_2).f4))) (fun _ hk => hk.2) (.int .i64 (wrap64 ((wrap64 (x12_2 + 1)) + (Go.bits .and .i64 (rd l1 x13_2) 7))))) (fun _ h_ => h_.1))) hb); have n1_ := Aside0.mk (bB (g := gb668) (o := .cells #[.int .i64 (wrap64 ((wrap64 (x12_2 + 1)) + (Go.bits .and .i64 (rd l1 x13_2) 7))), .int .i64 ((rd_T34 l0 x13_2).f1), .string ((rd_T34 l0 x13_2).f2), .string ((rd_T34 l0 x13_2).f3), .bool ((rd_T34 l0 x13_2).f4)] 34 (0, 0)) (by (with_reducible repeat (first | refine bN ?_ _ | refine bD ?_ | refine bA ?_ _)); refine bP (cs := #[.int .i64 ((rd_T34 l0 x13_2).f0), .int .i64 ((rd_T34 l0 x13_2).f1), .string ((rd_T34 l0 x13_2).f2), .string ((rd_T34 l0 x13_2).f3), .bool ((rd_T34 l0 x13_2).f4)]) ?_ 0 _ rfl; (with_reducible repeat (first | refine bN ?_ _ | refine bD ?_ | refine bA ?_ _)); refine bP (cs := #[.int .i64 ((rd_T34 l0 x13_2).f0), .int .i64 ((rd_T34 l0 x13_2).f1), .string ((rd_T34 l0 x13_2).f2), .string ((rd_T34 l0 x13_2).f3), .bool false]) ?_ 4 _ rfl; (with_reducible repeat (first | refine bN ?_ _ | refine bD ?_ | refine bA ?_ _)); refine bP (cs := #[.int .i64 ((rd_T34 l0 x13_2).f0), .int .i64 ((rd_T34 l0 x13_2).f1), .string ((rd_T34 l0 x13_2).f2), .string (⟨#[]⟩ : ByteArray), .bool false]) ?_ 3 _ rfl; (with_reducible repeat (first | refine bN ?_ _ | refine bD ?_ | refine bA ?_ _)); refine bP (cs := #[.int .i64 ((rd_T34 l0 x13_2).f0), .int .i64 ((rd_T34 l0 x13_2).f1), .string (⟨#[]⟩ : ByteArray), .string (⟨#[]⟩ : ByteArray), .bool false]) ?_ 2 _ rfl; (with_reducible repeat (first | refine bN ?_ _ | refine bD ?_ | refine bA ?_ _)); refine bP (cs := #[.int .i64 ((rd_T34 l0 x13_2).f0), .int .i64 0, .string (⟨#[]⟩ : ByteArray), .string (⟨#[]⟩ : ByteArray), .bool false]) ?_ 1 _ rfl; (with_reducible repeat (first | refine bN ?_ _ | refine bD ?_ | refine bA ?_ _)); refine bP (cs := #[.int .i64 0, .int .i64 0, .string (⟨#[]⟩ : ByteArray), .string (⟨#[]⟩ : ByteArray), .bool false]) ?_ 0 _ rfl; (with_reducible repeat (first | refine bN ?_ _ | refine bD ?_ | refine bA ?_ _)); exact BK668.out) hb); have n2_ := Aside0.mk (vT (by repeat (first | (with_reducible first | exact HB.out | apply vA | apply vN | apply vD | refine vS ?_ GE668.out) | exact HB.out)) hb); clear HO_11; clear BK668; clear HB; have HO_11 := n0_; have BK668 := n1_; have HB := n2_; clear n0_ n1_ n2_; (try clear hb); (try clear hb2); (try clear hk); (try clear hi); have hcz21_0 : w20.cell? ⟨gb668, 0, none⟩ = some (.int .i64 (wrap64 ((wrap64 (x12_2 + 1)) + (Go.bits .and .i64 (rd l1 x13_2) 7)))) := (bC BK668.out 0).trans rfl; have hcz21_1 : w20.cell? ⟨gb668, 1, none⟩ = some (.int .i64 ((rd_T34 l0 x13_2).f1)) := (bC BK668.out 1).trans rfl; have hcz21_2 : w20.cell? ⟨gb668, 2, none⟩ = some (.string ((rd_T34 l0 x13_2).f2)) := (bC BK668.out 2).trans rfl; have hcz21_3 : w20.cell? ⟨gb668, 3, none⟩ = some (.string ((rd_T34 l0 x13_2).f3)) := (bC BK668.out 3).trans rfl; have hcz21_4 : w20.cell? ⟨gb668, 4, none⟩ = some (.bool ((rd_T34 l0 x13_2).f4)) := (bC BK668.out 4).trans rfl; have hfz21_0 := bF BK668.out 0; have hfz21_1 := bF BK668.out 1; have hfz21_2 := bF BK668.out 2; have hfz21_3 := bF BK668.out 3; have hfz21_4 := bF BK668.out 4) | ((with_reducible refine gate_builtin (b := .append) (xs := #[(.tmp 62), .tmp 64]) rfl ?_); (try (refine gate_guard (by rfl) ?_; dsimp only)); at_builtin; refine Kd.R_append k34 (w0 := w) w.heap.size rfl (.tmp 62) (.tmp 64) 22 34 (.agg #[(.int .i64 0), (.int .i64 0), (.string ⟨#[]⟩), (.string ⟨#[]⟩), (.bool false)]) 56 rfl Try.underlying22 info34 rfl (by decide) (by omega) u11 x11_2 (⟨wrap64 ((wrap64 (x12_2 + 1)) + (Go.bits .and .i64 (rd l1 x13_2) 7)), (rd_T34 l0 x13_2).f1, (rd_T34 l0 x13_2).f2, (rd_T34 l0 x13_2).f3, (rd_T34 l0 x13_2).f4⟩ : S34) [.int .i64 (wrap64 ((wrap64 (x12_2 + 1)) + (Go.bits .and .i64 (rd l1 x13_2) 7))), .int .i64 ((rd_T34 l0 x13_2).f1), .string ((rd_T34 l0 x13_2).f2), .string ((rd_T34 l0 x13_2).f3), .bool ((rd_T34 l0 x13_2).f4)] (fun k_ => k_ ≠ gb668) (fun _ => False) rfl rfl ?aP (fun _ hk => hk.elim) ?aF ?aO ?aB ?aS ?aL ?_; (case aP => exact k34_mkM _ _ _ (⟨wrap64 ((wrap64 (x12_2 + 1)) + (Go.bits .and .i64 (rd l1 x13_2) 7)), (rd_T34 l0 x13_2).f1, (rd_T34 l0 x13_2).f2, (rd_T34 l0 x13_2).f3, (rd_T34 l0 x13_2).f4⟩ : S34)); (case aB => exact (by repeat (first | (with_reducible first | exact HB.out | apply vA | apply vN | apply vD | refine vS ?_ GE668.out) | exact HB.out))); (case aF => exact (fun k_ hk => Kd.freshB (g := gb668) (o := .cells #[.int .i64 (wrap64 ((wrap64 (x12_2 + 1)) + (Go.bits .and .i64 (rd l1 x13_2) 7))), .int .i64 ((rd_T34 l0 x13_2).f1), .string ((rd_T34 l0 x13_2).f2), .string ((rd_T34 l0 x13_2).f3), .bool ((rd_T34 l0 x13_2).f4)] 34 (0, 0)) (by (with_reducible repeat (first | refine bN ?_ _ | refine bD ?_ | refine bA ?_ _)); exact BK668.out) k_ hk)); (case aO => exact (by (with_reducible repeat (first | apply Kd.RA | apply Kd.RN | apply Kd.RD)); exact Kd.RM HO_11.out (fun _ hk => hk.2))); (case aS => exact (vZ (by repeat (first | (with_reducible first | exact HB.out | apply vA | apply vN | apply vD | refine vS ?_ GE668.out) | exact HB.out)))); (case aL => have := LMc17.out; omega); intro v672 w22 ho hb hg hat; rw [← Ny671.out] at ho; have n0_ := Aside0.mk (blk_grown (g := gb668) (o := .cells #[.int .i64 (wrap64 ((wrap64 (x12_2 + 1)) + (Go.bits .and .i64 (rd l1 x13_2) 7))), .int .i64 ((rd_T34 l0 x13_2).f1), .string ((rd_T34 l0 x13_2).f2), .string ((rd_T34 l0 x13_2).f3), .bool ((rd_T34 l0 x13_2).f4)] 34 (0, 0)) (by (with_reducible repeat (first | refine bN ?_ _ | refine bD ?_ | refine bA ?_ _)); exact BK668.out) hg (Kd.R_away HO_11.out (fun _ hk => hk.2))); have n1_ := Aside0.mk (hb); have n2_ := Aside0.mk (ho); clear BK668; clear HB; clear HO_11; have BK668 := n0_; have HB := n1_; have HO673 := n2_; clear n0_ n1_ n2_; clear ho hb hg hat))
                      repeat (go_quiet (first | ((with_reducible refine gate_dst (N := 14) rfl ?_); (try (refine gate_guard (by rfl) ?_; dsimp only)); refine box_event ?hg (N := 14) ?hd (cs := #[.int .i64 0, .int .i64 0, .string (⟨#[]⟩ : ByteArray), .string (⟨#[]⟩ : ByteArray), .bool false]) (t := 34) ?hr ?_; (case hd => rfl); (case hg => rfl); (case hr => first | (go_simp; done) | (go_simp; rfl)); intro gb668 hg w18 hbox hb; have n0_ := Aside0.mk (Kd.RB (Kd.R_elderB (by (with_reducible repeat (first | apply Kd.RA | apply Kd.RN | apply Kd.RD)); exact HO_11.out) gb668 (Nat.le_of_eq hg.symm)) hb); have n1_ := Aside0.mk (vT (by repeat (first | (with_reducible first | exact HB.out | apply vA | apply vN | apply vD) | exact HB.out)) hb); have n2_ := Aside0.mk (hbox); have n3_ := Aside0.mk ((by rw [hg]; exact (vZ (by repeat (first | (with_reducible first | exact HB.out | apply vA | apply vN | apply vD) | exact HB.out))) : w.heap.size ≤ gb668)); have n4_ := Aside0.mk ((by rw [hg]; exact (vZ (by repeat (first | (with_reducible first | exact HB.out | apply vA | apply vN | apply vD) | exact HB.out))) : w.heap.size ≤ gb668)); clear HO_11; clear HB; have HO_11 := n0_; have HB := n1_; have BK668 := n2_; have GW668 := n3_; have GE668 := n4_; clear n0_ n1_ n2_ n3_ n4_; clear hb hbox hg; have hcz19_0 : w18.cell? ⟨gb668, 0, none⟩ = some (.int .i64 0) := (bC BK668.out 0).trans rfl; have hcz19_1 : w18.cell? ⟨gb668, 1, none⟩ = some (.int .i64 0) := (bC BK668.out 1).trans rfl; have hcz19_2 : w18.cell? ⟨gb668, 2, none⟩ = some (.string (⟨#[]⟩ : ByteArray)) := (bC BK668.out 2).trans rfl; have hcz19_3 : w18.cell? ⟨gb668, 3, none⟩ = some (.string (⟨#[]⟩ : ByteArray)) := (bC BK668.out 3).trans rfl; have hcz19_4 : w18.cell? ⟨gb668, 4, none⟩ = some (.bool false) := (bC BK668.out 4).trans rfl; have hfz19_0 := bF BK668.out 0; have hfz19_1 := bF BK668.out 1; have hfz19_2 := bF BK668.out 2; have hfz19_3 := bF BK668.out 3; have hfz19_4 := bF BK668.out 4; have p669 : 0 ≤ (x13_2 : Int) := of_decide_eq_true (by first | (with_reducible assumption) | assumption); have q669 : x13_2 < (l1.length : Int) := of_decide_eq_true (by first | (with_reducible assumption) | assumption); obtain ⟨ad669, e669, hx669_0⟩ := Kd.at_int HR1.out x13_2 p669 q669; cases e669; have hn669_0 : ad669.block ≠ gb668 := Nat.ne_of_lt (Nat.lt_of_lt_of_le (by have := World.block_lt_of_cell? _ _ hx669_0; first | rwa [add_block] at this | exact this) GW668.out); have hn669_1 : ad669.block ≠ gb668 := Nat.ne_of_lt (Nat.lt_of_lt_of_le (by have := World.block_lt_of_cell? _ _ hx669_0; first | rwa [add_block] at this | exact this) GW668.out); have hn669_2 : ad669.block ≠ gb668 := Nat.ne_of_lt (Nat.lt_of_lt_of_le (by have := World.block_lt_of_cell? _ _ hx669_0; first | rwa [add_block] at this | exact this) GW668.out); have hn669_3 : ad669.block ≠ gb668 := Nat.ne_of_lt (Nat.lt_of_lt_of_le (by have := World.block_lt_of_cell? _ _ hx669_0; first | rwa [add_block] at this | exact this) GW668.out); have hn669_4 : ad669.block ≠ gb668 := Nat.ne_of_lt (Nat.lt_of_lt_of_le (by have := World.block_lt_of_cell? _ _ hx669_0; first | rwa [add_block] at this | exact this) GW668.out); replace hx669_0 := (HB.out.cell (World.block_lt_of_cell? w _ hx669_0)).trans hx669_0; replace hx669_0 := (cell_far (p := ⟨gb668, 0, none⟩) (by first | (rw [add_block]; exact hn669_0) | (show (Addr.add _ _).block ≠ _; rw [add_block]; exact hn669_0) | exact hn669_0) (.int .i64 ((rd_T34 l0 x13_2).f0))).trans hx669_0; replace hx669_0 := (cell_far (p := ⟨gb668, 1, none⟩) (by first | (rw [add_block]; exact hn669_1) | (show (Addr.add _ _).block ≠ _; rw [add_block]; exact hn669_1) | exact hn669_1) (.int .i64 ((rd_T34 l0 x13_2).f1))).trans hx669_0; replace hx669_0 := (cell_far (p := ⟨gb668, 2, none⟩) (by first | (rw [add_block]; exact hn669_2) | (show (Addr.add _ _).block ≠ _; rw [add_block]; exact hn669_2) | exact hn669_2) (.string ((rd_T34 l0 x13_2).f2))).trans hx669_0; replace hx669_0 := (cell_far (p := ⟨gb668, 3, none⟩) (by first | (rw [add_block]; exact hn669_3) | (show (Addr.add _ _).block ≠ _; rw [add_block]; exact hn669_3) | exact hn669_3) (.string ((rd_T34 l0 x13_2).f3))).trans hx669_0; replace hx669_0 := (cell_far (p := ⟨gb668, 4, none⟩) (by first | (rw [add_block]; exact hn669_4) | (show (Addr.add _ _).block ≠ _; rw [add_block]; exact hn669_4) | exact hn669_4) (.bool ((rd_T34 l0 x13_2).f4))).trans hx669_0; (try have hy669_0 := fun (n_ : Nat) => (show (((((((w18.drewN n_).setCell ⟨gb668, 0, none⟩ (.int .i64 ((rd_T34 l0 x13_2).f0))).setCell ⟨gb668, 1, none⟩ (.int .i64 ((rd_T34 l0 x13_2).f1))).setCell ⟨gb668, 2, none⟩ (.string ((rd_T34 l0 x13_2).f2))).setCell ⟨gb668, 3, none⟩ (.string ((rd_T34 l0 x13_2).f3))).setCell ⟨gb668, 4, none⟩ (.bool ((rd_T34 l0 x13_2).f4)))).cell? _ = some _ from hx669_0)); clear hn669_0; clear hn669_1; clear hn669_2; clear hn669_3; clear hn669_4; replace p669 := eq_true p669; replace q669 := eq_true q669) | (go_at_call 16; (with_reducible refine (cooperageref1_Right.calls (wrap64 ((wrap64 (x12_2 + 1)) + (Go.bits .and .i64 (rd l1 x13_2) 7))) ((rd_T34 l0 x13_2).f1) ((rd_T34 l0 x13_2).f2) ((rd_T34 l0 x13_2).f3) ((rd_T34 l0 x13_2).f4) true _ A15.out).mono ?_); rintro e w20 ⟨rfl, hb⟩; have n0_ := Aside0.mk (Kd.RB (by (with_reducible repeat (first | apply Kd.RA | apply Kd.RN | apply Kd.RD)); exact (Kd.RM (Kd.RF (p := ⟨gb668, 0, none⟩) (Kd.RF (p := ⟨gb668, 4, none⟩) (Kd.RF (p := ⟨gb668, 3, none⟩) (Kd.RF (p := ⟨gb668, 2, none⟩) (Kd.RF (p := ⟨gb668, 1, none⟩) (Kd.RF (p := ⟨gb668, 0, none⟩) (Kd.RM HO_11.out (fun k_ hk => (⟨hk, hk.2⟩ : _ ∧ k_ ≠ gb668))) (fun _ hk => hk.2) (.int .i64 ((rd_T34 l0 x13_2).f0))) (fun _ hk => hk.2) (.int .i64 ((rd_T34 l0 x13_2).f1))) (fun _ hk => hk.2) (.string ((rd_T34 l0 x13_2).f2))) (fun _ hk => hk.2) (.string ((rd_T34 l0 x13_2).f3))) (fun _ hk => hk.2) (.bool ((rd_T34 l0 x13_2).f4))) (fun _ hk => hk.2) (.int .i64 (wrap64 ((wrap64 (x12_2 + 1)) + (Go.bits .and .i64 (rd l1 x13_2) 7))))) (fun _ h_ => h_.1))) hb); have n1_ := Aside0.mk (bB (g := gb668) (o := .cells #[.int .i64 (wrap64 ((wrap64 (x12_2 + 1)) + (Go.bits .and .i64 (rd l1 x13_2) 7))), .int .i64 ((rd_T34 l0 x13_2).f1), .string ((rd_T34 l0 x13_2).f2), .string ((rd_T34 l0 x13_2).f3), .bool ((rd_T34 l0 x13_2).f4)] 34 (0, 0)) (by (with_reducible repeat (first | refine bN ?_ _ | refine bD ?_ | refine bA ?_ _)); refine bP (cs := #[.int .i64 ((rd_T34 l0 x13_2).f0), .int .i64 ((rd_T34 l0 x13_2).f1), .string ((rd_T34 l0 x13_2).f2), .string ((rd_T34 l0 x13_2).f3), .bool ((rd_T34 l0 x13_2).f4)]) ?_ 0 _ rfl; (with_reducible repeat (first | refine bN ?_ _ | refine bD ?_ | refine bA ?_ _)); refine bP (cs := #[.int .i64 ((rd_T34 l0 x13_2).f0), .int .i64 ((rd_T34 l0 x13_2).f1), .string ((rd_T34 l0 x13_2).f2), .string ((rd_T34 l0 x13_2).f3), .bool false]) ?_ 4 _ rfl; (with_reducible repeat (first | refine bN ?_ _ | refine bD ?_ | refine bA ?_ _)); refine bP (cs := #[.int .i64 ((rd_T34 l0 x13_2).f0), .int .i64 ((rd_T34 l0 x13_2).f1), .string ((rd_T34 l0 x13_2).f2), .string (⟨#[]⟩ : ByteArray), .bool false]) ?_ 3 _ rfl; (with_reducible repeat (first | refine bN ?_ _ | refine bD ?_ | refine bA ?_ _)); refine bP (cs := #[.int .i64 ((rd_T34 l0 x13_2).f0), .int .i64 ((rd_T34 l0 x13_2).f1), .string (⟨#[]⟩ : ByteArray), .string (⟨#[]⟩ : ByteArray), .bool false]) ?_ 2 _ rfl; (with_reducible repeat (first | refine bN ?_ _ | refine bD ?_ | refine bA ?_ _)); refine bP (cs := #[.int .i64 ((rd_T34 l0 x13_2).f0), .int .i64 0, .string (⟨#[]⟩ : ByteArray), .string (⟨#[]⟩ : ByteArray), .bool false]) ?_ 1 _ rfl; (with_reducible repeat (first | refine bN ?_ _ | refine bD ?_ | refine bA ?_ _)); refine bP (cs := #[.int .i64 0, .int .i64 0, .string (⟨#[]⟩ : ByteArray), .string (⟨#[]⟩ : ByteArray), .bool false]) ?_ 0 _ rfl; (with_reducible repeat (first | refine bN ?_ _ | refine bD ?_ | refine bA ?_ _)); exact BK668.out) hb); have n2_ := Aside0.mk (vT (by repeat (first | (with_reducible first | exact HB.out | apply vA | apply vN | apply vD | refine vS ?_ GE668.out) | exact HB.out)) hb); clear HO_11; clear BK668; clear HB; have HO_11 := n0_; have BK668 := n1_; have HB := n2_; clear n0_ n1_ n2_; (try clear hb); (try clear hb2); (try clear hk); (try clear hi); have hcz21_0 : w20.cell? ⟨gb668, 0, none⟩ = some (.int .i64 (wrap64 ((wrap64 (x12_2 + 1)) + (Go.bits .and .i64 (rd l1 x13_2) 7)))) := (bC BK668.out 0).trans rfl; have hcz21_1 : w20.cell? ⟨gb668, 1, none⟩ = some (.int .i64 ((rd_T34 l0 x13_2).f1)) := (bC BK668.out 1).trans rfl; have hcz21_2 : w20.cell? ⟨gb668, 2, none⟩ = some (.string ((rd_T34 l0 x13_2).f2)) := (bC BK668.out 2).trans rfl; have hcz21_3 : w20.cell? ⟨gb668, 3, none⟩ = some (.string ((rd_T34 l0 x13_2).f3)) := (bC BK668.out 3).trans rfl; have hcz21_4 : w20.cell? ⟨gb668, 4, none⟩ = some (.bool ((rd_T34 l0 x13_2).f4)) := (bC BK668.out 4).trans rfl; have hfz21_0 := bF BK668.out 0; have hfz21_1 := bF BK668.out 1; have hfz21_2 := bF BK668.out 2; have hfz21_3 := bF BK668.out 3; have hfz21_4 := bF BK668.out 4) | ((with_reducible refine gate_builtin (b := .append) (xs := #[(.tmp 62), .tmp 64]) rfl ?_); (try (refine gate_guard (by rfl) ?_; dsimp only)); at_builtin; refine Kd.R_append k34 (w0 := w) w.heap.size rfl (.tmp 62) (.tmp 64) 22 34 (.agg #[(.int .i64 0), (.int .i64 0), (.string ⟨#[]⟩), (.string ⟨#[]⟩), (.bool false)]) 56 rfl Try.underlying22 info34 rfl (by decide) (by omega) u11 x11_2 (⟨wrap64 ((wrap64 (x12_2 + 1)) + (Go.bits .and .i64 (rd l1 x13_2) 7)), (rd_T34 l0 x13_2).f1, (rd_T34 l0 x13_2).f2, (rd_T34 l0 x13_2).f3, (rd_T34 l0 x13_2).f4⟩ : S34) [.int .i64 (wrap64 ((wrap64 (x12_2 + 1)) + (Go.bits .and .i64 (rd l1 x13_2) 7))), .int .i64 ((rd_T34 l0 x13_2).f1), .string ((rd_T34 l0 x13_2).f2), .string ((rd_T34 l0 x13_2).f3), .bool ((rd_T34 l0 x13_2).f4)] (fun k_ => k_ ≠ gb668) (fun _ => False) rfl rfl ?aP (fun _ hk => hk.elim) ?aF ?aO ?aB ?aS ?aL ?_; (case aP => exact k34_mkM _ _ _ (⟨wrap64 ((wrap64 (x12_2 + 1)) + (Go.bits .and .i64 (rd l1 x13_2) 7)), (rd_T34 l0 x13_2).f1, (rd_T34 l0 x13_2).f2, (rd_T34 l0 x13_2).f3, (rd_T34 l0 x13_2).f4⟩ : S34)); (case aB => exact (by repeat (first | (with_reducible first | exact HB.out | apply vA | apply vN | apply vD | refine vS ?_ GE668.out) | exact HB.out))); (case aF => exact (fun k_ hk => Kd.freshB (g := gb668) (o := .cells #[.int .i64 (wrap64 ((wrap64 (x12_2 + 1)) + (Go.bits .and .i64 (rd l1 x13_2) 7))), .int .i64 ((rd_T34 l0 x13_2).f1), .string ((rd_T34 l0 x13_2).f2), .string ((rd_T34 l0 x13_2).f3), .bool ((rd_T34 l0 x13_2).f4)] 34 (0, 0)) (by (with_reducible repeat (first | refine bN ?_ _ | refine bD ?_ | refine bA ?_ _)); exact BK668.out) k_ hk)); (case aO => exact (by (with_reducible repeat (first | apply Kd.RA | apply Kd.RN | apply Kd.RD)); exact Kd.RM HO_11.out (fun _ hk => hk.2))); (case aS => exact (vZ (by repeat (first | (with_reducible first | exact HB.out | apply vA | apply vN | apply vD | refine vS ?_ GE668.out) | exact HB.out)))); (case aL => have := LMc17.out; omega); intro v672 w22 ho hb hg hat; rw [← Ny671.out] at ho; have n0_ := Aside0.mk (blk_grown (g := gb668) (o := .cells #[.int .i64 (wrap64 ((wrap64 (x12_2 + 1)) + (Go.bits .and .i64 (rd l1 x13_2) 7))), .int .i64 ((rd_T34 l0 x13_2).f1), .string ((rd_T34 l0 x13_2).f2), .string ((rd_T34 l0 x13_2).f3), .bool ((rd_T34 l0 x13_2).f4)] 34 (0, 0)) (by (with_reducible repeat (first | refine bN ?_ _ | refine bD ?_ | refine bA ?_ _)); exact BK668.out) hg (Kd.R_away HO_11.out (fun _ hk => hk.2))); have n1_ := Aside0.mk (hb); have n2_ := Aside0.mk (ho); clear BK668; clear HB; clear HO_11; have BK668 := n0_; have HB := n1_; have HO673 := n2_; clear n0_ n1_ n2_; clear ho hb hg hat)); try go_wp2_with (first | ((with_reducible refine gate_dst (N := 14) rfl ?_); (try (refine gate_guard (by rfl) ?_; dsimp only)); refine box_event ?hg (N := 14) ?hd (cs := #[.int .i64 0, .int .i64 0, .string (⟨#[]⟩ : ByteArray), .string (⟨#[]⟩ : ByteArray), .bool false]) (t := 34) ?hr ?_; (case hd => rfl); (case hg => rfl); (case hr => first | (go_simp; done) | (go_simp; rfl)); intro gb668 hg w18 hbox hb; have n0_ := Aside0.mk (Kd.RB (Kd.R_elderB (by (with_reducible repeat (first | apply Kd.RA | apply Kd.RN | apply Kd.RD)); exact HO_11.out) gb668 (Nat.le_of_eq hg.symm)) hb); have n1_ := Aside0.mk (vT (by repeat (first | (with_reducible first | exact HB.out | apply vA | apply vN | apply vD) | exact HB.out)) hb); have n2_ := Aside0.mk (hbox); have n3_ := Aside0.mk ((by rw [hg]; exact (vZ (by repeat (first | (with_reducible first | exact HB.out | apply vA | apply vN | apply vD) | exact HB.out))) : w.heap.size ≤ gb668)); have n4_ := Aside0.mk ((by rw [hg]; exact (vZ (by repeat (first | (with_reducible first | exact HB.out | apply vA | apply vN | apply vD) | exact HB.out))) : w.heap.size ≤ gb668)); clear HO_11; clear HB; have HO_11 := n0_; have HB := n1_; have BK668 := n2_; have GW668 := n3_; have GE668 := n4_; clear n0_ n1_ n2_ n3_ n4_; clear hb hbox hg; have hcz19_0 : w18.cell? ⟨gb668, 0, none⟩ = some (.int .i64 0) := (bC BK668.out 0).trans rfl; have hcz19_1 : w18.cell? ⟨gb668, 1, none⟩ = some (.int .i64 0) := (bC BK668.out 1).trans rfl; have hcz19_2 : w18.cell? ⟨gb668, 2, none⟩ = some (.string (⟨#[]⟩ : ByteArray)) := (bC BK668.out 2).trans rfl; have hcz19_3 : w18.cell? ⟨gb668, 3, none⟩ = some (.string (⟨#[]⟩ : ByteArray)) := (bC BK668.out 3).trans rfl; have hcz19_4 : w18.cell? ⟨gb668, 4, none⟩ = some (.bool false) := (bC BK668.out 4).trans rfl; have hfz19_0 := bF BK668.out 0; have hfz19_1 := bF BK668.out 1; have hfz19_2 := bF BK668.out 2; have hfz19_3 := bF BK668.out 3; have hfz19_4 := bF BK668.out 4; have p669 : 0 ≤ (x13_2 : Int) := of_decide_eq_true (by first | (with_reducible assumption) | assumption); have q669 : x13_2 < (l1.length : Int) := of_decide_eq_true (by first | (with_reducible assumption) | assumption); obtain ⟨ad669, e669, hx669_0⟩ := Kd.at_int HR1.out x13_2 p669 q669; cases e669; have hn669_0 : ad669.block ≠ gb668 := Nat.ne_of_lt (Nat.lt_of_lt_of_le (by have := World.block_lt_of_cell? _ _ hx669_0; first | rwa [add_block] at this | exact this) GW668.out); have hn669_1 : ad669.block ≠ gb668 := Nat.ne_of_lt (Nat.lt_of_lt_of_le (by have := World.block_lt_of_cell? _ _ hx669_0; first | rwa [add_block] at this | exact this) GW668.out); have hn669_2 : ad669.block ≠ gb668 := Nat.ne_of_lt (Nat.lt_of_lt_of_le (by have := World.block_lt_of_cell? _ _ hx669_0; first | rwa [add_block] at this | exact this) GW668.out); have hn669_3 : ad669.block ≠ gb668 := Nat.ne_of_lt (Nat.lt_of_lt_of_le (by have := World.block_lt_of_cell? _ _ hx669_0; first | rwa [add_block] at this | exact this) GW668.out); have hn669_4 : ad669.block ≠ gb668 := Nat.ne_of_lt (Nat.lt_of_lt_of_le (by have := World.block_lt_of_cell? _ _ hx669_0; first | rwa [add_block] at this | exact this) GW668.out); replace hx669_0 := (HB.out.cell (World.block_lt_of_cell? w _ hx669_0)).trans hx669_0; replace hx669_0 := (cell_far (p := ⟨gb668, 0, none⟩) (by first | (rw [add_block]; exact hn669_0) | (show (Addr.add _ _).block ≠ _; rw [add_block]; exact hn669_0) | exact hn669_0) (.int .i64 ((rd_T34 l0 x13_2).f0))).trans hx669_0; replace hx669_0 := (cell_far (p := ⟨gb668, 1, none⟩) (by first | (rw [add_block]; exact hn669_1) | (show (Addr.add _ _).block ≠ _; rw [add_block]; exact hn669_1) | exact hn669_1) (.int .i64 ((rd_T34 l0 x13_2).f1))).trans hx669_0; replace hx669_0 := (cell_far (p := ⟨gb668, 2, none⟩) (by first | (rw [add_block]; exact hn669_2) | (show (Addr.add _ _).block ≠ _; rw [add_block]; exact hn669_2) | exact hn669_2) (.string ((rd_T34 l0 x13_2).f2))).trans hx669_0; replace hx669_0 := (cell_far (p := ⟨gb668, 3, none⟩) (by first | (rw [add_block]; exact hn669_3) | (show (Addr.add _ _).block ≠ _; rw [add_block]; exact hn669_3) | exact hn669_3) (.string ((rd_T34 l0 x13_2).f3))).trans hx669_0; replace hx669_0 := (cell_far (p := ⟨gb668, 4, none⟩) (by first | (rw [add_block]; exact hn669_4) | (show (Addr.add _ _).block ≠ _; rw [add_block]; exact hn669_4) | exact hn669_4) (.bool ((rd_T34 l0 x13_2).f4))).trans hx669_0; (try have hy669_0 := fun (n_ : Nat) => (show (((((((w18.drewN n_).setCell ⟨gb668, 0, none⟩ (.int .i64 ((rd_T34 l0 x13_2).f0))).setCell ⟨gb668, 1, none⟩ (.int .i64 ((rd_T34 l0 x13_2).f1))).setCell ⟨gb668, 2, none⟩ (.string ((rd_T34 l0 x13_2).f2))).setCell ⟨gb668, 3, none⟩ (.string ((rd_T34 l0 x13_2).f3))).setCell ⟨gb668, 4, none⟩ (.bool ((rd_T34 l0 x13_2).f4)))).cell? _ = some _ from hx669_0)); clear hn669_0; clear hn669_1; clear hn669_2; clear hn669_3; clear hn669_4; replace p669 := eq_true p669; replace q669 := eq_true q669) | (go_at_call 16; (with_reducible refine (cooperageref1_Right.calls (wrap64 ((wrap64 (x12_2 + 1)) + (Go.bits .and .i64 (rd l1 x13_2) 7))) ((rd_T34 l0 x13_2).f1) ((rd_T34 l0 x13_2).f2) ((rd_T34 l0 x13_2).f3) ((rd_T34 l0 x13_2).f4) true _ A15.out).mono ?_); rintro e w20 ⟨rfl, hb⟩; have n0_ := Aside0.mk (Kd.RB (by (with_reducible repeat (first | apply Kd.RA | apply Kd.RN | apply Kd.RD)); exact (Kd.RM (Kd.RF (p := ⟨gb668, 0, none⟩) (Kd.RF (p := ⟨gb668, 4, none⟩) (Kd.RF (p := ⟨gb668, 3, none⟩) (Kd.RF (p := ⟨gb668, 2, none⟩) (Kd.RF (p := ⟨gb668, 1, none⟩) (Kd.RF (p := ⟨gb668, 0, none⟩) (Kd.RM HO_11.out (fun k_ hk => (⟨hk, hk.2⟩ : _ ∧ k_ ≠ gb668))) (fun _ hk => hk.2) (.int .i64 ((rd_T34 l0 x13_2).f0))) (fun _ hk => hk.2) (.int .i64 ((rd_T34 l0 x13_2).f1))) (fun _ hk => hk.2) (.string ((rd_T34 l0 x13_2).f2))) (fun _ hk => hk.2) (.string ((rd_T34 l0 x13_2).f3))) (fun _ hk => hk.2) (.bool ((rd_T34 l0 x13_2).f4))) (fun _ hk => hk.2) (.int .i64 (wrap64 ((wrap64 (x12_2 + 1)) + (Go.bits .and .i64 (rd l1 x13_2) 7))))) (fun _ h_ => h_.1))) hb); have n1_ := Aside0.mk (bB (g := gb668) (o := .cells #[.int .i64 (wrap64 ((wrap64 (x12_2 + 1)) + (Go.bits .and .i64 (rd l1 x13_2) 7))), .int .i64 ((rd_T34 l0 x13_2).f1), .string ((rd_T34 l0 x13_2).f2), .string ((rd_T34 l0 x13_2).f3), .bool ((rd_T34 l0 x13_2).f4)] 34 (0, 0)) (by (with_reducible repeat (first | refine bN ?_ _ | refine bD ?_ | refine bA ?_ _)); refine bP (cs := #[.int .i64 ((rd_T34 l0 x13_2).f0), .int .i64 ((rd_T34 l0 x13_2).f1), .string ((rd_T34 l0 x13_2).f2), .string ((rd_T34 l0 x13_2).f3), .bool ((rd_T34 l0 x13_2).f4)]) ?_ 0 _ rfl; (with_reducible repeat (first | refine bN ?_ _ | refine bD ?_ | refine bA ?_ _)); refine bP (cs := #[.int .i64 ((rd_T34 l0 x13_2).f0), .int .i64 ((rd_T34 l0 x13_2).f1), .string ((rd_T34 l0 x13_2).f2), .string ((rd_T34 l0 x13_2).f3), .bool false]) ?_ 4 _ rfl; (with_reducible repeat (first | refine bN ?_ _ | refine bD ?_ | refine bA ?_ _)); refine bP (cs := #[.int .i64 ((rd_T34 l0 x13_2).f0), .int .i64 ((rd_T34 l0 x13_2).f1), .string ((rd_T34 l0 x13_2).f2), .string (⟨#[]⟩ : ByteArray), .bool false]) ?_ 3 _ rfl; (with_reducible repeat (first | refine bN ?_ _ | refine bD ?_ | refine bA ?_ _)); refine bP (cs := #[.int .i64 ((rd_T34 l0 x13_2).f0), .int .i64 ((rd_T34 l0 x13_2).f1), .string (⟨#[]⟩ : ByteArray), .string (⟨#[]⟩ : ByteArray), .bool false]) ?_ 2 _ rfl; (with_reducible repeat (first | refine bN ?_ _ | refine bD ?_ | refine bA ?_ _)); refine bP (cs := #[.int .i64 ((rd_T34 l0 x13_2).f0), .int .i64 0, .string (⟨#[]⟩ : ByteArray), .string (⟨#[]⟩ : ByteArray), .bool false]) ?_ 1 _ rfl; (with_reducible repeat (first | refine bN ?_ _ | refine bD ?_ | refine bA ?_ _)); refine bP (cs := #[.int .i64 0, .int .i64 0, .string (⟨#[]⟩ : ByteArray), .string (⟨#[]⟩ : ByteArray), .bool false]) ?_ 0 _ rfl; (with_reducible repeat (first | refine bN ?_ _ | refine bD ?_ | refine bA ?_ _)); exact BK668.out) hb); have n2_ := Aside0.mk (vT (by repeat (first | (with_reducible first | exact HB.out | apply vA | apply vN | apply vD | refine vS ?_ GE668.out) | exact HB.out)) hb); clear HO_11; clear BK668; clear HB; have HO_11 := n0_; have BK668 := n1_; have HB := n2_; clear n0_ n1_ n2_; (try clear hb); (try clear hb2); (try clear hk); (try clear hi); have hcz21_0 : w20.cell? ⟨gb668, 0, none⟩ = some (.int .i64 (wrap64 ((wrap64 (x12_2 + 1)) + (Go.bits .and .i64 (rd l1 x13_2) 7)))) := (bC BK668.out 0).trans rfl; have hcz21_1 : w20.cell? ⟨gb668, 1, none⟩ = some (.int .i64 ((rd_T34 l0 x13_2).f1)) := (bC BK668.out 1).trans rfl; have hcz21_2 : w20.cell? ⟨gb668, 2, none⟩ = some (.string ((rd_T34 l0 x13_2).f2)) := (bC BK668.out 2).trans rfl; have hcz21_3 : w20.cell? ⟨gb668, 3, none⟩ = some (.string ((rd_T34 l0 x13_2).f3)) := (bC BK668.out 3).trans rfl; have hcz21_4 : w20.cell? ⟨gb668, 4, none⟩ = some (.bool ((rd_T34 l0 x13_2).f4)) := (bC BK668.out 4).trans rfl; have hfz21_0 := bF BK668.out 0; have hfz21_1 := bF BK668.out 1; have hfz21_2 := bF BK668.out 2; have hfz21_3 := bF BK668.out 3; have hfz21_4 := bF BK668.out 4) | ((with_reducible refine gate_builtin (b := .append) (xs := #[(.tmp 62), .tmp 64]) rfl ?_); (try (refine gate_guard (by rfl) ?_; dsimp only)); at_builtin; refine Kd.R_append k34 (w0 := w) w.heap.size rfl (.tmp 62) (.tmp 64) 22 34 (.agg #[(.int .i64 0), (.int .i64 0), (.string ⟨#[]⟩), (.string ⟨#[]⟩), (.bool false)]) 56 rfl Try.underlying22 info34 rfl (by decide) (by omega) u11 x11_2 (⟨wrap64 ((wrap64 (x12_2 + 1)) + (Go.bits .and .i64 (rd l1 x13_2) 7)), (rd_T34 l0 x13_2).f1, (rd_T34 l0 x13_2).f2, (rd_T34 l0 x13_2).f3, (rd_T34 l0 x13_2).f4⟩ : S34) [.int .i64 (wrap64 ((wrap64 (x12_2 + 1)) + (Go.bits .and .i64 (rd l1 x13_2) 7))), .int .i64 ((rd_T34 l0 x13_2).f1), .string ((rd_T34 l0 x13_2).f2), .string ((rd_T34 l0 x13_2).f3), .bool ((rd_T34 l0 x13_2).f4)] (fun k_ => k_ ≠ gb668) (fun _ => False) rfl rfl ?aP (fun _ hk => hk.elim) ?aF ?aO ?aB ?aS ?aL ?_; (case aP => exact k34_mkM _ _ _ (⟨wrap64 ((wrap64 (x12_2 + 1)) + (Go.bits .and .i64 (rd l1 x13_2) 7)), (rd_T34 l0 x13_2).f1, (rd_T34 l0 x13_2).f2, (rd_T34 l0 x13_2).f3, (rd_T34 l0 x13_2).f4⟩ : S34)); (case aB => exact (by repeat (first | (with_reducible first | exact HB.out | apply vA | apply vN | apply vD | refine vS ?_ GE668.out) | exact HB.out))); (case aF => exact (fun k_ hk => Kd.freshB (g := gb668) (o := .cells #[.int .i64 (wrap64 ((wrap64 (x12_2 + 1)) + (Go.bits .and .i64 (rd l1 x13_2) 7))), .int .i64 ((rd_T34 l0 x13_2).f1), .string ((rd_T34 l0 x13_2).f2), .string ((rd_T34 l0 x13_2).f3), .bool ((rd_T34 l0 x13_2).f4)] 34 (0, 0)) (by (with_reducible repeat (first | refine bN ?_ _ | refine bD ?_ | refine bA ?_ _)); exact BK668.out) k_ hk)); (case aO => exact (by (with_reducible repeat (first | apply Kd.RA | apply Kd.RN | apply Kd.RD)); exact Kd.RM HO_11.out (fun _ hk => hk.2))); (case aS => exact (vZ (by repeat (first | (with_reducible first | exact HB.out | apply vA | apply vN | apply vD | refine vS ?_ GE668.out) | exact HB.out)))); (case aL => have := LMc17.out; omega); intro v672 w22 ho hb hg hat; rw [← Ny671.out] at ho; have n0_ := Aside0.mk (blk_grown (g := gb668) (o := .cells #[.int .i64 (wrap64 ((wrap64 (x12_2 + 1)) + (Go.bits .and .i64 (rd l1 x13_2) 7))), .int .i64 ((rd_T34 l0 x13_2).f1), .string ((rd_T34 l0 x13_2).f2), .string ((rd_T34 l0 x13_2).f3), .bool ((rd_T34 l0 x13_2).f4)] 34 (0, 0)) (by (with_reducible repeat (first | refine bN ?_ _ | refine bD ?_ | refine bA ?_ _)); exact BK668.out) hg (Kd.R_away HO_11.out (fun _ hk => hk.2))); have n1_ := Aside0.mk (hb); have n2_ := Aside0.mk (ho); clear BK668; clear HB; clear HO_11; have BK668 := n0_; have HB := n1_; have HO673 := n2_; clear n0_ n1_ n2_; clear ho hb hg hat)))
                      go_roundg k2
                      case measure => have := HJ6.out; have := HK2.out; omega
                      case rel => exact ⟨(y671), (wrap64 ((wrap64 (x12_2 + 1)) + (Go.bits .and .i64 (rd l1 x13_2) 7))), (wrap64 (x13_2 + 1)), (by first | rfl | (simp; done) | (simp [*]; done)), (by first | rfl | (simp; done) | (simp [*]; done)), H', ⟨by have := HJ6.out; have := HK2.out; omega⟩, ⟨by (with_reducible repeat (first | apply Kd.RA | apply Kd.RN | apply Kd.RD)); exact Kd.RM HO673.out (fun _ hk => trivial)⟩, ⟨by repeat (first | (with_reducible first | exact HB.out | apply vA | apply vN | apply vD | refine vS ?_ GE668.out) | exact HB.out)⟩⟩
                    · rw [if_neg c17] at H
                      exact absurd H (by simp)
                  · replace c16 := Bool.eq_false_iff.mpr c16
                    subst c16
                    have H1 : (cooperagelaw9_IndexFinds.l0 k2 l0 l1 a2 a3 x11_2 (wrap64 ((wrap64 (x12_2 + 1)) + (Go.bits .and .i64 (rd l1 x13_2) 7))) (wrap64 (x13_2 + 1))) = some true := by rw [if_neg (show ¬ (false = true) by decide)] at H; exact H
                    clear H
                    have H := H1
                    clear H1
                    have H' := Aside0.mk H
                    clear H
                    have p667 : 0 ≤ (x13_2 : Int) := of_decide_eq_true (by first | (with_reducible assumption) | assumption)
                    have q667 : x13_2 < (l0.length : Int) := of_decide_eq_true (by first | (with_reducible assumption) | assumption)
                    obtain ⟨ad667, e667, hx667_0, hx667_1, hx667_2, hx667_3, hx667_4⟩ := at_T34 HR0.out x13_2 p667 q667
                    cases e667
                    replace hx667_0 := (HB.out.cell (World.block_lt_of_cell? w _ hx667_0)).trans hx667_0
                    replace hx667_1 := (HB.out.cell (World.block_lt_of_cell? w _ hx667_1)).trans hx667_1
                    replace hx667_2 := (HB.out.cell (World.block_lt_of_cell? w _ hx667_2)).trans hx667_2
                    replace hx667_3 := (HB.out.cell (World.block_lt_of_cell? w _ hx667_3)).trans hx667_3
                    replace hx667_4 := (HB.out.cell (World.block_lt_of_cell? w _ hx667_4)).trans hx667_4
                    replace p667 := eq_true p667
                    replace q667 := eq_true q667
                    go_wp2_with (first | ((with_reducible refine gate_dst (N := 14) rfl ?_); (try (refine gate_guard (by rfl) ?_; dsimp only)); refine box_event ?hg (N := 14) ?hd (cs := #[.int .i64 0, .int .i64 0, .string (⟨#[]⟩ : ByteArray), .string (⟨#[]⟩ : ByteArray), .bool false]) (t := 34) ?hr ?_; (case hd => rfl); (case hg => rfl); (case hr => first | (go_simp; done) | (go_simp; rfl)); intro gb668 hg w23 hbox hb; have n0_ := Aside0.mk (Kd.RB (Kd.R_elderB (by (with_reducible repeat (first | apply Kd.RA | apply Kd.RN | apply Kd.RD)); exact HO_11.out) gb668 (Nat.le_of_eq hg.symm)) hb); have n1_ := Aside0.mk (vT (by repeat (first | (with_reducible first | exact HB.out | apply vA | apply vN | apply vD) | exact HB.out)) hb); have n2_ := Aside0.mk (hbox); have n3_ := Aside0.mk ((by rw [hg]; exact (vZ (by repeat (first | (with_reducible first | exact HB.out | apply vA | apply vN | apply vD) | exact HB.out))) : w.heap.size ≤ gb668)); have n4_ := Aside0.mk ((by rw [hg]; exact (vZ (by repeat (first | (with_reducible first | exact HB.out | apply vA | apply vN | apply vD) | exact HB.out))) : w.heap.size ≤ gb668)); clear HO_11; clear HB; have HO_11 := n0_; have HB := n1_; have BK668 := n2_; have GW668 := n3_; have GE668 := n4_; clear n0_ n1_ n2_ n3_ n4_; clear hb hbox hg; have hcz24_0 : w23.cell? ⟨gb668, 0, none⟩ = some (.int .i64 0) := (bC BK668.out 0).trans rfl; have hcz24_1 : w23.cell? ⟨gb668, 1, none⟩ = some (.int .i64 0) := (bC BK668.out 1).trans rfl; have hcz24_2 : w23.cell? ⟨gb668, 2, none⟩ = some (.string (⟨#[]⟩ : ByteArray)) := (bC BK668.out 2).trans rfl; have hcz24_3 : w23.cell? ⟨gb668, 3, none⟩ = some (.string (⟨#[]⟩ : ByteArray)) := (bC BK668.out 3).trans rfl; have hcz24_4 : w23.cell? ⟨gb668, 4, none⟩ = some (.bool false) := (bC BK668.out 4).trans rfl; have hfz24_0 := bF BK668.out 0; have hfz24_1 := bF BK668.out 1; have hfz24_2 := bF BK668.out 2; have hfz24_3 := bF BK668.out 3; have hfz24_4 := bF BK668.out 4; have p669 : 0 ≤ (x13_2 : Int) := of_decide_eq_true (by first | (with_reducible assumption) | assumption); have q669 : x13_2 < (l1.length : Int) := of_decide_eq_true (by first | (with_reducible assumption) | assumption); obtain ⟨ad669, e669, hx669_0⟩ := Kd.at_int HR1.out x13_2 p669 q669; cases e669; have hn669_0 : ad669.block ≠ gb668 := Nat.ne_of_lt (Nat.lt_of_lt_of_le (by have := World.block_lt_of_cell? _ _ hx669_0; first | rwa [add_block] at this | exact this) GW668.out); have hn669_1 : ad669.block ≠ gb668 := Nat.ne_of_lt (Nat.lt_of_lt_of_le (by have := World.block_lt_of_cell? _ _ hx669_0; first | rwa [add_block] at this | exact this) GW668.out); have hn669_2 : ad669.block ≠ gb668 := Nat.ne_of_lt (Nat.lt_of_lt_of_le (by have := World.block_lt_of_cell? _ _ hx669_0; first | rwa [add_block] at this | exact this) GW668.out); have hn669_3 : ad669.block ≠ gb668 := Nat.ne_of_lt (Nat.lt_of_lt_of_le (by have := World.block_lt_of_cell? _ _ hx669_0; first | rwa [add_block] at this | exact this) GW668.out); have hn669_4 : ad669.block ≠ gb668 := Nat.ne_of_lt (Nat.lt_of_lt_of_le (by have := World.block_lt_of_cell? _ _ hx669_0; first | rwa [add_block] at this | exact this) GW668.out); replace hx669_0 := (HB.out.cell (World.block_lt_of_cell? w _ hx669_0)).trans hx669_0; replace hx669_0 := (cell_far (p := ⟨gb668, 0, none⟩) (by first | (rw [add_block]; exact hn669_0) | (show (Addr.add _ _).block ≠ _; rw [add_block]; exact hn669_0) | exact hn669_0) (.int .i64 ((rd_T34 l0 x13_2).f0))).trans hx669_0; replace hx669_0 := (cell_far (p := ⟨gb668, 1, none⟩) (by first | (rw [add_block]; exact hn669_1) | (show (Addr.add _ _).block ≠ _; rw [add_block]; exact hn669_1) | exact hn669_1) (.int .i64 ((rd_T34 l0 x13_2).f1))).trans hx669_0; replace hx669_0 := (cell_far (p := ⟨gb668, 2, none⟩) (by first | (rw [add_block]; exact hn669_2) | (show (Addr.add _ _).block ≠ _; rw [add_block]; exact hn669_2) | exact hn669_2) (.string ((rd_T34 l0 x13_2).f2))).trans hx669_0; replace hx669_0 := (cell_far (p := ⟨gb668, 3, none⟩) (by first | (rw [add_block]; exact hn669_3) | (show (Addr.add _ _).block ≠ _; rw [add_block]; exact hn669_3) | exact hn669_3) (.string ((rd_T34 l0 x13_2).f3))).trans hx669_0; replace hx669_0 := (cell_far (p := ⟨gb668, 4, none⟩) (by first | (rw [add_block]; exact hn669_4) | (show (Addr.add _ _).block ≠ _; rw [add_block]; exact hn669_4) | exact hn669_4) (.bool ((rd_T34 l0 x13_2).f4))).trans hx669_0; (try have hy669_0 := fun (n_ : Nat) => (show (((((((w23.drewN n_).setCell ⟨gb668, 0, none⟩ (.int .i64 ((rd_T34 l0 x13_2).f0))).setCell ⟨gb668, 1, none⟩ (.int .i64 ((rd_T34 l0 x13_2).f1))).setCell ⟨gb668, 2, none⟩ (.string ((rd_T34 l0 x13_2).f2))).setCell ⟨gb668, 3, none⟩ (.string ((rd_T34 l0 x13_2).f3))).setCell ⟨gb668, 4, none⟩ (.bool ((rd_T34 l0 x13_2).f4)))).cell? _ = some _ from hx669_0)); clear hn669_0; clear hn669_1; clear hn669_2; clear hn669_3; clear hn669_4; replace p669 := eq_true p669; replace q669 := eq_true q669) | (go_at_call 16; (with_reducible refine (cooperageref1_Right.calls (wrap64 ((wrap64 (x12_2 + 1)) + (Go.bits .and .i64 (rd l1 x13_2) 7))) ((rd_T34 l0 x13_2).f1) ((rd_T34 l0 x13_2).f2) ((rd_T34 l0 x13_2).f3) ((rd_T34 l0 x13_2).f4) false _ A15.out).mono ?_); rintro e w25 ⟨rfl, hb⟩; have n0_ := Aside0.mk (Kd.RB (by (with_reducible repeat (first | apply Kd.RA | apply Kd.RN | apply Kd.RD)); exact (Kd.RM (Kd.RF (p := ⟨gb668, 0, none⟩) (Kd.RF (p := ⟨gb668, 4, none⟩) (Kd.RF (p := ⟨gb668, 3, none⟩) (Kd.RF (p := ⟨gb668, 2, none⟩) (Kd.RF (p := ⟨gb668, 1, none⟩) (Kd.RF (p := ⟨gb668, 0, none⟩) (Kd.RM HO_11.out (fun k_ hk => (⟨hk, hk.2⟩ : _ ∧ k_ ≠ gb668))) (fun _ hk => hk.2) (.int .i64 ((rd_T34 l0 x13_2).f0))) (fun _ hk => hk.2) (.int .i64 ((rd_T34 l0 x13_2).f1))) (fun _ hk => hk.2) (.string ((rd_T34 l0 x13_2).f2))) (fun _ hk => hk.2) (.string ((rd_T34 l0 x13_2).f3))) (fun _ hk => hk.2) (.bool ((rd_T34 l0 x13_2).f4))) (fun _ hk => hk.2) (.int .i64 (wrap64 ((wrap64 (x12_2 + 1)) + (Go.bits .and .i64 (rd l1 x13_2) 7))))) (fun _ h_ => h_.1))) hb); have n1_ := Aside0.mk (bB (g := gb668) (o := .cells #[.int .i64 (wrap64 ((wrap64 (x12_2 + 1)) + (Go.bits .and .i64 (rd l1 x13_2) 7))), .int .i64 ((rd_T34 l0 x13_2).f1), .string ((rd_T34 l0 x13_2).f2), .string ((rd_T34 l0 x13_2).f3), .bool ((rd_T34 l0 x13_2).f4)] 34 (0, 0)) (by (with_reducible repeat (first | refine bN ?_ _ | refine bD ?_ | refine bA ?_ _)); refine bP (cs := #[.int .i64 ((rd_T34 l0 x13_2).f0), .int .i64 ((rd_T34 l0 x13_2).f1), .string ((rd_T34 l0 x13_2).f2), .string ((rd_T34 l0 x13_2).f3), .bool ((rd_T34 l0 x13_2).f4)]) ?_ 0 _ rfl; (with_reducible repeat (first | refine bN ?_ _ | refine bD ?_ | refine bA ?_ _)); refine bP (cs := #[.int .i64 ((rd_T34 l0 x13_2).f0), .int .i64 ((rd_T34 l0 x13_2).f1), .string ((rd_T34 l0 x13_2).f2), .string ((rd_T34 l0 x13_2).f3), .bool false]) ?_ 4 _ rfl; (with_reducible repeat (first | refine bN ?_ _ | refine bD ?_ | refine bA ?_ _)); refine bP (cs := #[.int .i64 ((rd_T34 l0 x13_2).f0), .int .i64 ((rd_T34 l0 x13_2).f1), .string ((rd_T34 l0 x13_2).f2), .string (⟨#[]⟩ : ByteArray), .bool false]) ?_ 3 _ rfl; (with_reducible repeat (first | refine bN ?_ _ | refine bD ?_ | refine bA ?_ _)); refine bP (cs := #[.int .i64 ((rd_T34 l0 x13_2).f0), .int .i64 ((rd_T34 l0 x13_2).f1), .string (⟨#[]⟩ : ByteArray), .string (⟨#[]⟩ : ByteArray), .bool false]) ?_ 2 _ rfl; (with_reducible repeat (first | refine bN ?_ _ | refine bD ?_ | refine bA ?_ _)); refine bP (cs := #[.int .i64 ((rd_T34 l0 x13_2).f0), .int .i64 0, .string (⟨#[]⟩ : ByteArray), .string (⟨#[]⟩ : ByteArray), .bool false]) ?_ 1 _ rfl; (with_reducible repeat (first | refine bN ?_ _ | refine bD ?_ | refine bA ?_ _)); refine bP (cs := #[.int .i64 0, .int .i64 0, .string (⟨#[]⟩ : ByteArray), .string (⟨#[]⟩ : ByteArray), .bool false]) ?_ 0 _ rfl; (with_reducible repeat (first | refine bN ?_ _ | refine bD ?_ | refine bA ?_ _)); exact BK668.out) hb); have n2_ := Aside0.mk (vT (by repeat (first | (with_reducible first | exact HB.out | apply vA | apply vN | apply vD | refine vS ?_ GE668.out) | exact HB.out)) hb); clear HO_11; clear BK668; clear HB; have HO_11 := n0_; have BK668 := n1_; have HB := n2_; clear n0_ n1_ n2_; (try clear hb); (try clear hb2); (try clear hk); (try clear hi)))
                    repeat (go_quiet (first | ((with_reducible refine gate_dst (N := 14) rfl ?_); (try (refine gate_guard (by rfl) ?_; dsimp only)); refine box_event ?hg (N := 14) ?hd (cs := #[.int .i64 0, .int .i64 0, .string (⟨#[]⟩ : ByteArray), .string (⟨#[]⟩ : ByteArray), .bool false]) (t := 34) ?hr ?_; (case hd => rfl); (case hg => rfl); (case hr => first | (go_simp; done) | (go_simp; rfl)); intro gb668 hg w23 hbox hb; have n0_ := Aside0.mk (Kd.RB (Kd.R_elderB (by (with_reducible repeat (first | apply Kd.RA | apply Kd.RN | apply Kd.RD)); exact HO_11.out) gb668 (Nat.le_of_eq hg.symm)) hb); have n1_ := Aside0.mk (vT (by repeat (first | (with_reducible first | exact HB.out | apply vA | apply vN | apply vD) | exact HB.out)) hb); have n2_ := Aside0.mk (hbox); have n3_ := Aside0.mk ((by rw [hg]; exact (vZ (by repeat (first | (with_reducible first | exact HB.out | apply vA | apply vN | apply vD) | exact HB.out))) : w.heap.size ≤ gb668)); have n4_ := Aside0.mk ((by rw [hg]; exact (vZ (by repeat (first | (with_reducible first | exact HB.out | apply vA | apply vN | apply vD) | exact HB.out))) : w.heap.size ≤ gb668)); clear HO_11; clear HB; have HO_11 := n0_; have HB := n1_; have BK668 := n2_; have GW668 := n3_; have GE668 := n4_; clear n0_ n1_ n2_ n3_ n4_; clear hb hbox hg; have hcz24_0 : w23.cell? ⟨gb668, 0, none⟩ = some (.int .i64 0) := (bC BK668.out 0).trans rfl; have hcz24_1 : w23.cell? ⟨gb668, 1, none⟩ = some (.int .i64 0) := (bC BK668.out 1).trans rfl; have hcz24_2 : w23.cell? ⟨gb668, 2, none⟩ = some (.string (⟨#[]⟩ : ByteArray)) := (bC BK668.out 2).trans rfl; have hcz24_3 : w23.cell? ⟨gb668, 3, none⟩ = some (.string (⟨#[]⟩ : ByteArray)) := (bC BK668.out 3).trans rfl; have hcz24_4 : w23.cell? ⟨gb668, 4, none⟩ = some (.bool false) := (bC BK668.out 4).trans rfl; have hfz24_0 := bF BK668.out 0; have hfz24_1 := bF BK668.out 1; have hfz24_2 := bF BK668.out 2; have hfz24_3 := bF BK668.out 3; have hfz24_4 := bF BK668.out 4; have p669 : 0 ≤ (x13_2 : Int) := of_decide_eq_true (by first | (with_reducible assumption) | assumption); have q669 : x13_2 < (l1.length : Int) := of_decide_eq_true (by first | (with_reducible assumption) | assumption); obtain ⟨ad669, e669, hx669_0⟩ := Kd.at_int HR1.out x13_2 p669 q669; cases e669; have hn669_0 : ad669.block ≠ gb668 := Nat.ne_of_lt (Nat.lt_of_lt_of_le (by have := World.block_lt_of_cell? _ _ hx669_0; first | rwa [add_block] at this | exact this) GW668.out); have hn669_1 : ad669.block ≠ gb668 := Nat.ne_of_lt (Nat.lt_of_lt_of_le (by have := World.block_lt_of_cell? _ _ hx669_0; first | rwa [add_block] at this | exact this) GW668.out); have hn669_2 : ad669.block ≠ gb668 := Nat.ne_of_lt (Nat.lt_of_lt_of_le (by have := World.block_lt_of_cell? _ _ hx669_0; first | rwa [add_block] at this | exact this) GW668.out); have hn669_3 : ad669.block ≠ gb668 := Nat.ne_of_lt (Nat.lt_of_lt_of_le (by have := World.block_lt_of_cell? _ _ hx669_0; first | rwa [add_block] at this | exact this) GW668.out); have hn669_4 : ad669.block ≠ gb668 := Nat.ne_of_lt (Nat.lt_of_lt_of_le (by have := World.block_lt_of_cell? _ _ hx669_0; first | rwa [add_block] at this | exact this) GW668.out); replace hx669_0 := (HB.out.cell (World.block_lt_of_cell? w _ hx669_0)).trans hx669_0; replace hx669_0 := (cell_far (p := ⟨gb668, 0, none⟩) (by first | (rw [add_block]; exact hn669_0) | (show (Addr.add _ _).block ≠ _; rw [add_block]; exact hn669_0) | exact hn669_0) (.int .i64 ((rd_T34 l0 x13_2).f0))).trans hx669_0; replace hx669_0 := (cell_far (p := ⟨gb668, 1, none⟩) (by first | (rw [add_block]; exact hn669_1) | (show (Addr.add _ _).block ≠ _; rw [add_block]; exact hn669_1) | exact hn669_1) (.int .i64 ((rd_T34 l0 x13_2).f1))).trans hx669_0; replace hx669_0 := (cell_far (p := ⟨gb668, 2, none⟩) (by first | (rw [add_block]; exact hn669_2) | (show (Addr.add _ _).block ≠ _; rw [add_block]; exact hn669_2) | exact hn669_2) (.string ((rd_T34 l0 x13_2).f2))).trans hx669_0; replace hx669_0 := (cell_far (p := ⟨gb668, 3, none⟩) (by first | (rw [add_block]; exact hn669_3) | (show (Addr.add _ _).block ≠ _; rw [add_block]; exact hn669_3) | exact hn669_3) (.string ((rd_T34 l0 x13_2).f3))).trans hx669_0; replace hx669_0 := (cell_far (p := ⟨gb668, 4, none⟩) (by first | (rw [add_block]; exact hn669_4) | (show (Addr.add _ _).block ≠ _; rw [add_block]; exact hn669_4) | exact hn669_4) (.bool ((rd_T34 l0 x13_2).f4))).trans hx669_0; (try have hy669_0 := fun (n_ : Nat) => (show (((((((w23.drewN n_).setCell ⟨gb668, 0, none⟩ (.int .i64 ((rd_T34 l0 x13_2).f0))).setCell ⟨gb668, 1, none⟩ (.int .i64 ((rd_T34 l0 x13_2).f1))).setCell ⟨gb668, 2, none⟩ (.string ((rd_T34 l0 x13_2).f2))).setCell ⟨gb668, 3, none⟩ (.string ((rd_T34 l0 x13_2).f3))).setCell ⟨gb668, 4, none⟩ (.bool ((rd_T34 l0 x13_2).f4)))).cell? _ = some _ from hx669_0)); clear hn669_0; clear hn669_1; clear hn669_2; clear hn669_3; clear hn669_4; replace p669 := eq_true p669; replace q669 := eq_true q669) | (go_at_call 16; (with_reducible refine (cooperageref1_Right.calls (wrap64 ((wrap64 (x12_2 + 1)) + (Go.bits .and .i64 (rd l1 x13_2) 7))) ((rd_T34 l0 x13_2).f1) ((rd_T34 l0 x13_2).f2) ((rd_T34 l0 x13_2).f3) ((rd_T34 l0 x13_2).f4) false _ A15.out).mono ?_); rintro e w25 ⟨rfl, hb⟩; have n0_ := Aside0.mk (Kd.RB (by (with_reducible repeat (first | apply Kd.RA | apply Kd.RN | apply Kd.RD)); exact (Kd.RM (Kd.RF (p := ⟨gb668, 0, none⟩) (Kd.RF (p := ⟨gb668, 4, none⟩) (Kd.RF (p := ⟨gb668, 3, none⟩) (Kd.RF (p := ⟨gb668, 2, none⟩) (Kd.RF (p := ⟨gb668, 1, none⟩) (Kd.RF (p := ⟨gb668, 0, none⟩) (Kd.RM HO_11.out (fun k_ hk => (⟨hk, hk.2⟩ : _ ∧ k_ ≠ gb668))) (fun _ hk => hk.2) (.int .i64 ((rd_T34 l0 x13_2).f0))) (fun _ hk => hk.2) (.int .i64 ((rd_T34 l0 x13_2).f1))) (fun _ hk => hk.2) (.string ((rd_T34 l0 x13_2).f2))) (fun _ hk => hk.2) (.string ((rd_T34 l0 x13_2).f3))) (fun _ hk => hk.2) (.bool ((rd_T34 l0 x13_2).f4))) (fun _ hk => hk.2) (.int .i64 (wrap64 ((wrap64 (x12_2 + 1)) + (Go.bits .and .i64 (rd l1 x13_2) 7))))) (fun _ h_ => h_.1))) hb); have n1_ := Aside0.mk (bB (g := gb668) (o := .cells #[.int .i64 (wrap64 ((wrap64 (x12_2 + 1)) + (Go.bits .and .i64 (rd l1 x13_2) 7))), .int .i64 ((rd_T34 l0 x13_2).f1), .string ((rd_T34 l0 x13_2).f2), .string ((rd_T34 l0 x13_2).f3), .bool ((rd_T34 l0 x13_2).f4)] 34 (0, 0)) (by (with_reducible repeat (first | refine bN ?_ _ | refine bD ?_ | refine bA ?_ _)); refine bP (cs := #[.int .i64 ((rd_T34 l0 x13_2).f0), .int .i64 ((rd_T34 l0 x13_2).f1), .string ((rd_T34 l0 x13_2).f2), .string ((rd_T34 l0 x13_2).f3), .bool ((rd_T34 l0 x13_2).f4)]) ?_ 0 _ rfl; (with_reducible repeat (first | refine bN ?_ _ | refine bD ?_ | refine bA ?_ _)); refine bP (cs := #[.int .i64 ((rd_T34 l0 x13_2).f0), .int .i64 ((rd_T34 l0 x13_2).f1), .string ((rd_T34 l0 x13_2).f2), .string ((rd_T34 l0 x13_2).f3), .bool false]) ?_ 4 _ rfl; (with_reducible repeat (first | refine bN ?_ _ | refine bD ?_ | refine bA ?_ _)); refine bP (cs := #[.int .i64 ((rd_T34 l0 x13_2).f0), .int .i64 ((rd_T34 l0 x13_2).f1), .string ((rd_T34 l0 x13_2).f2), .string (⟨#[]⟩ : ByteArray), .bool false]) ?_ 3 _ rfl; (with_reducible repeat (first | refine bN ?_ _ | refine bD ?_ | refine bA ?_ _)); refine bP (cs := #[.int .i64 ((rd_T34 l0 x13_2).f0), .int .i64 ((rd_T34 l0 x13_2).f1), .string (⟨#[]⟩ : ByteArray), .string (⟨#[]⟩ : ByteArray), .bool false]) ?_ 2 _ rfl; (with_reducible repeat (first | refine bN ?_ _ | refine bD ?_ | refine bA ?_ _)); refine bP (cs := #[.int .i64 ((rd_T34 l0 x13_2).f0), .int .i64 0, .string (⟨#[]⟩ : ByteArray), .string (⟨#[]⟩ : ByteArray), .bool false]) ?_ 1 _ rfl; (with_reducible repeat (first | refine bN ?_ _ | refine bD ?_ | refine bA ?_ _)); refine bP (cs := #[.int .i64 0, .int .i64 0, .string (⟨#[]⟩ : ByteArray), .string (⟨#[]⟩ : ByteArray), .bool false]) ?_ 0 _ rfl; (with_reducible repeat (first | refine bN ?_ _ | refine bD ?_ | refine bA ?_ _)); exact BK668.out) hb); have n2_ := Aside0.mk (vT (by repeat (first | (with_reducible first | exact HB.out | apply vA | apply vN | apply vD | refine vS ?_ GE668.out) | exact HB.out)) hb); clear HO_11; clear BK668; clear HB; have HO_11 := n0_; have BK668 := n1_; have HB := n2_; clear n0_ n1_ n2_; (try clear hb); (try clear hb2); (try clear hk); (try clear hi))); try go_wp2_with (first | ((with_reducible refine gate_dst (N := 14) rfl ?_); (try (refine gate_guard (by rfl) ?_; dsimp only)); refine box_event ?hg (N := 14) ?hd (cs := #[.int .i64 0, .int .i64 0, .string (⟨#[]⟩ : ByteArray), .string (⟨#[]⟩ : ByteArray), .bool false]) (t := 34) ?hr ?_; (case hd => rfl); (case hg => rfl); (case hr => first | (go_simp; done) | (go_simp; rfl)); intro gb668 hg w23 hbox hb; have n0_ := Aside0.mk (Kd.RB (Kd.R_elderB (by (with_reducible repeat (first | apply Kd.RA | apply Kd.RN | apply Kd.RD)); exact HO_11.out) gb668 (Nat.le_of_eq hg.symm)) hb); have n1_ := Aside0.mk (vT (by repeat (first | (with_reducible first | exact HB.out | apply vA | apply vN | apply vD) | exact HB.out)) hb); have n2_ := Aside0.mk (hbox); have n3_ := Aside0.mk ((by rw [hg]; exact (vZ (by repeat (first | (with_reducible first | exact HB.out | apply vA | apply vN | apply vD) | exact HB.out))) : w.heap.size ≤ gb668)); have n4_ := Aside0.mk ((by rw [hg]; exact (vZ (by repeat (first | (with_reducible first | exact HB.out | apply vA | apply vN | apply vD) | exact HB.out))) : w.heap.size ≤ gb668)); clear HO_11; clear HB; have HO_11 := n0_; have HB := n1_; have BK668 := n2_; have GW668 := n3_; have GE668 := n4_; clear n0_ n1_ n2_ n3_ n4_; clear hb hbox hg; have hcz24_0 : w23.cell? ⟨gb668, 0, none⟩ = some (.int .i64 0) := (bC BK668.out 0).trans rfl; have hcz24_1 : w23.cell? ⟨gb668, 1, none⟩ = some (.int .i64 0) := (bC BK668.out 1).trans rfl; have hcz24_2 : w23.cell? ⟨gb668, 2, none⟩ = some (.string (⟨#[]⟩ : ByteArray)) := (bC BK668.out 2).trans rfl; have hcz24_3 : w23.cell? ⟨gb668, 3, none⟩ = some (.string (⟨#[]⟩ : ByteArray)) := (bC BK668.out 3).trans rfl; have hcz24_4 : w23.cell? ⟨gb668, 4, none⟩ = some (.bool false) := (bC BK668.out 4).trans rfl; have hfz24_0 := bF BK668.out 0; have hfz24_1 := bF BK668.out 1; have hfz24_2 := bF BK668.out 2; have hfz24_3 := bF BK668.out 3; have hfz24_4 := bF BK668.out 4; have p669 : 0 ≤ (x13_2 : Int) := of_decide_eq_true (by first | (with_reducible assumption) | assumption); have q669 : x13_2 < (l1.length : Int) := of_decide_eq_true (by first | (with_reducible assumption) | assumption); obtain ⟨ad669, e669, hx669_0⟩ := Kd.at_int HR1.out x13_2 p669 q669; cases e669; have hn669_0 : ad669.block ≠ gb668 := Nat.ne_of_lt (Nat.lt_of_lt_of_le (by have := World.block_lt_of_cell? _ _ hx669_0; first | rwa [add_block] at this | exact this) GW668.out); have hn669_1 : ad669.block ≠ gb668 := Nat.ne_of_lt (Nat.lt_of_lt_of_le (by have := World.block_lt_of_cell? _ _ hx669_0; first | rwa [add_block] at this | exact this) GW668.out); have hn669_2 : ad669.block ≠ gb668 := Nat.ne_of_lt (Nat.lt_of_lt_of_le (by have := World.block_lt_of_cell? _ _ hx669_0; first | rwa [add_block] at this | exact this) GW668.out); have hn669_3 : ad669.block ≠ gb668 := Nat.ne_of_lt (Nat.lt_of_lt_of_le (by have := World.block_lt_of_cell? _ _ hx669_0; first | rwa [add_block] at this | exact this) GW668.out); have hn669_4 : ad669.block ≠ gb668 := Nat.ne_of_lt (Nat.lt_of_lt_of_le (by have := World.block_lt_of_cell? _ _ hx669_0; first | rwa [add_block] at this | exact this) GW668.out); replace hx669_0 := (HB.out.cell (World.block_lt_of_cell? w _ hx669_0)).trans hx669_0; replace hx669_0 := (cell_far (p := ⟨gb668, 0, none⟩) (by first | (rw [add_block]; exact hn669_0) | (show (Addr.add _ _).block ≠ _; rw [add_block]; exact hn669_0) | exact hn669_0) (.int .i64 ((rd_T34 l0 x13_2).f0))).trans hx669_0; replace hx669_0 := (cell_far (p := ⟨gb668, 1, none⟩) (by first | (rw [add_block]; exact hn669_1) | (show (Addr.add _ _).block ≠ _; rw [add_block]; exact hn669_1) | exact hn669_1) (.int .i64 ((rd_T34 l0 x13_2).f1))).trans hx669_0; replace hx669_0 := (cell_far (p := ⟨gb668, 2, none⟩) (by first | (rw [add_block]; exact hn669_2) | (show (Addr.add _ _).block ≠ _; rw [add_block]; exact hn669_2) | exact hn669_2) (.string ((rd_T34 l0 x13_2).f2))).trans hx669_0; replace hx669_0 := (cell_far (p := ⟨gb668, 3, none⟩) (by first | (rw [add_block]; exact hn669_3) | (show (Addr.add _ _).block ≠ _; rw [add_block]; exact hn669_3) | exact hn669_3) (.string ((rd_T34 l0 x13_2).f3))).trans hx669_0; replace hx669_0 := (cell_far (p := ⟨gb668, 4, none⟩) (by first | (rw [add_block]; exact hn669_4) | (show (Addr.add _ _).block ≠ _; rw [add_block]; exact hn669_4) | exact hn669_4) (.bool ((rd_T34 l0 x13_2).f4))).trans hx669_0; (try have hy669_0 := fun (n_ : Nat) => (show (((((((w23.drewN n_).setCell ⟨gb668, 0, none⟩ (.int .i64 ((rd_T34 l0 x13_2).f0))).setCell ⟨gb668, 1, none⟩ (.int .i64 ((rd_T34 l0 x13_2).f1))).setCell ⟨gb668, 2, none⟩ (.string ((rd_T34 l0 x13_2).f2))).setCell ⟨gb668, 3, none⟩ (.string ((rd_T34 l0 x13_2).f3))).setCell ⟨gb668, 4, none⟩ (.bool ((rd_T34 l0 x13_2).f4)))).cell? _ = some _ from hx669_0)); clear hn669_0; clear hn669_1; clear hn669_2; clear hn669_3; clear hn669_4; replace p669 := eq_true p669; replace q669 := eq_true q669) | (go_at_call 16; (with_reducible refine (cooperageref1_Right.calls (wrap64 ((wrap64 (x12_2 + 1)) + (Go.bits .and .i64 (rd l1 x13_2) 7))) ((rd_T34 l0 x13_2).f1) ((rd_T34 l0 x13_2).f2) ((rd_T34 l0 x13_2).f3) ((rd_T34 l0 x13_2).f4) false _ A15.out).mono ?_); rintro e w25 ⟨rfl, hb⟩; have n0_ := Aside0.mk (Kd.RB (by (with_reducible repeat (first | apply Kd.RA | apply Kd.RN | apply Kd.RD)); exact (Kd.RM (Kd.RF (p := ⟨gb668, 0, none⟩) (Kd.RF (p := ⟨gb668, 4, none⟩) (Kd.RF (p := ⟨gb668, 3, none⟩) (Kd.RF (p := ⟨gb668, 2, none⟩) (Kd.RF (p := ⟨gb668, 1, none⟩) (Kd.RF (p := ⟨gb668, 0, none⟩) (Kd.RM HO_11.out (fun k_ hk => (⟨hk, hk.2⟩ : _ ∧ k_ ≠ gb668))) (fun _ hk => hk.2) (.int .i64 ((rd_T34 l0 x13_2).f0))) (fun _ hk => hk.2) (.int .i64 ((rd_T34 l0 x13_2).f1))) (fun _ hk => hk.2) (.string ((rd_T34 l0 x13_2).f2))) (fun _ hk => hk.2) (.string ((rd_T34 l0 x13_2).f3))) (fun _ hk => hk.2) (.bool ((rd_T34 l0 x13_2).f4))) (fun _ hk => hk.2) (.int .i64 (wrap64 ((wrap64 (x12_2 + 1)) + (Go.bits .and .i64 (rd l1 x13_2) 7))))) (fun _ h_ => h_.1))) hb); have n1_ := Aside0.mk (bB (g := gb668) (o := .cells #[.int .i64 (wrap64 ((wrap64 (x12_2 + 1)) + (Go.bits .and .i64 (rd l1 x13_2) 7))), .int .i64 ((rd_T34 l0 x13_2).f1), .string ((rd_T34 l0 x13_2).f2), .string ((rd_T34 l0 x13_2).f3), .bool ((rd_T34 l0 x13_2).f4)] 34 (0, 0)) (by (with_reducible repeat (first | refine bN ?_ _ | refine bD ?_ | refine bA ?_ _)); refine bP (cs := #[.int .i64 ((rd_T34 l0 x13_2).f0), .int .i64 ((rd_T34 l0 x13_2).f1), .string ((rd_T34 l0 x13_2).f2), .string ((rd_T34 l0 x13_2).f3), .bool ((rd_T34 l0 x13_2).f4)]) ?_ 0 _ rfl; (with_reducible repeat (first | refine bN ?_ _ | refine bD ?_ | refine bA ?_ _)); refine bP (cs := #[.int .i64 ((rd_T34 l0 x13_2).f0), .int .i64 ((rd_T34 l0 x13_2).f1), .string ((rd_T34 l0 x13_2).f2), .string ((rd_T34 l0 x13_2).f3), .bool false]) ?_ 4 _ rfl; (with_reducible repeat (first | refine bN ?_ _ | refine bD ?_ | refine bA ?_ _)); refine bP (cs := #[.int .i64 ((rd_T34 l0 x13_2).f0), .int .i64 ((rd_T34 l0 x13_2).f1), .string ((rd_T34 l0 x13_2).f2), .string (⟨#[]⟩ : ByteArray), .bool false]) ?_ 3 _ rfl; (with_reducible repeat (first | refine bN ?_ _ | refine bD ?_ | refine bA ?_ _)); refine bP (cs := #[.int .i64 ((rd_T34 l0 x13_2).f0), .int .i64 ((rd_T34 l0 x13_2).f1), .string (⟨#[]⟩ : ByteArray), .string (⟨#[]⟩ : ByteArray), .bool false]) ?_ 2 _ rfl; (with_reducible repeat (first | refine bN ?_ _ | refine bD ?_ | refine bA ?_ _)); refine bP (cs := #[.int .i64 ((rd_T34 l0 x13_2).f0), .int .i64 0, .string (⟨#[]⟩ : ByteArray), .string (⟨#[]⟩ : ByteArray), .bool false]) ?_ 1 _ rfl; (with_reducible repeat (first | refine bN ?_ _ | refine bD ?_ | refine bA ?_ _)); refine bP (cs := #[.int .i64 0, .int .i64 0, .string (⟨#[]⟩ : ByteArray), .string (⟨#[]⟩ : ByteArray), .bool false]) ?_ 0 _ rfl; (with_reducible repeat (first | refine bN ?_ _ | refine bD ?_ | refine bA ?_ _)); exact BK668.out) hb); have n2_ := Aside0.mk (vT (by repeat (first | (with_reducible first | exact HB.out | apply vA | apply vN | apply vD | refine vS ?_ GE668.out) | exact HB.out)) hb); clear HO_11; clear BK668; clear HB; have HO_11 := n0_; have BK668 := n1_; have HB := n2_; clear n0_ n1_ n2_; (try clear hb); (try clear hb2); (try clear hk); (try clear hi))))
                    go_roundg k2
                    case measure => have := HJ6.out; have := HK2.out; omega
                    case rel => exact ⟨(x11_2), (wrap64 ((wrap64 (x12_2 + 1)) + (Go.bits .and .i64 (rd l1 x13_2) 7))), (wrap64 (x13_2 + 1)), (by first | rfl | (simp; done) | (simp [*]; done)), (by first | rfl | (simp; done) | (simp [*]; done)), H', ⟨by have := HJ6.out; have := HK2.out; omega⟩, ⟨by (with_reducible repeat (first | apply Kd.RA | apply Kd.RN | apply Kd.RD)); exact Kd.RM HO_11.out (fun _ hk => trivial)⟩, ⟨by repeat (first | (with_reducible first | exact HB.out | apply vA | apply vN | apply vD | refine vS ?_ GE668.out) | exact HB.out)⟩⟩
                · rw [if_neg c14] at H
                  exact absurd H (by simp)
              · rw [if_neg c13] at H
                exact absurd H (by simp)
            · rw [if_neg c12] at H
              have c12b0 : decide (x13_2 < (l0.length : Int)) = false := decide_eq_false c12
              clear c12
              replace H := Option.bind_eq_some_iff.mp H
              obtain ⟨t674, A260, H⟩ := H
              replace H : ((index_Make.f k2 x11_2 a2).bind fun t677 => ((index_Find.f k2 t674 t677 a3).bind fun bt680 => ((index_FindTime.f k2 t674 t677 a3).bind fun bt687 => (cooperagelaw9_IndexFinds.l1 k2 a3 x11_2 bt680.2.2.2.2.2 bt687.2.2.2.2.2 true true 0 bt680.1 bt680.2.1 bt680.2.2.1 bt680.2.2.2.1 bt680.2.2.2.2.1 bt687.1 bt687.2.1 bt687.2.2.1 bt687.2.2.2.1 bt687.2.2.2.2.1)))) = some true := H
              have A26 := Aside0.mk A260
              clear A260
              replace H := Option.bind_eq_some_iff.mp H
              obtain ⟨t677, A270, H⟩ := H
              replace H : ((index_Find.f k2 t674 t677 a3).bind fun bt680 => ((index_FindTime.f k2 t674 t677 a3).bind fun bt687 => (cooperagelaw9_IndexFinds.l1 k2 a3 x11_2 bt680.2.2.2.2.2 bt687.2.2.2.2.2 true true 0 bt680.1 bt680.2.1 bt680.2.2.1 bt680.2.2.2.1 bt680.2.2.2.2.1 bt687.1 bt687.2.1 bt687.2.2.1 bt687.2.2.2.1 bt687.2.2.2.2.1))) = some true := H
              have A27 := Aside0.mk A270
              clear A270
              replace H := Option.bind_eq_some_iff.mp H
              obtain ⟨⟨t680, t681, t682, t683, t684, t685⟩, A280, H⟩ := H
              replace H : ((index_FindTime.f k2 t674 t677 a3).bind fun bt687 => (cooperagelaw9_IndexFinds.l1 k2 a3 x11_2 t685 bt687.2.2.2.2.2 true true 0 t680 t681 t682 t683 t684 bt687.1 bt687.2.1 bt687.2.2.1 bt687.2.2.2.1 bt687.2.2.2.2.1)) = some true := H
              have A28 := Aside0.mk A280
              clear A280
              replace H := Option.bind_eq_some_iff.mp H
              obtain ⟨⟨t687, t688, t689, t690, t691, t692⟩, A290, H⟩ := H
              replace H : (cooperagelaw9_IndexFinds.l1 k2 a3 x11_2 t685 t692 true true 0 t680 t681 t682 t683 t684 t687 t688 t689 t690 t691) = some true := H
              have A29 := Aside0.mk A290
              clear A290
              have H' := Aside0.mk H
              clear H
              obtain ⟨Ao30, co30, eo30⟩ := Kd.R_slice HO_11.out
              subst eo30
              go_wp2_with (first | (go_at_call 18; (with_reducible refine (cooperageref1_Bytes.calls k2 _ _ x11_2 t674 _ ?side1 ?side2 A26.out).mono ?_); (case side1 => repeat (first | exact (Kd.R_reads' HO_11.out).2.2 | (with_reducible refine Kd.C_alloc ?_ _) | (with_reducible refine Kd.C_drewN ?_ _) | (with_reducible refine Kd.C_drew ?_))); (case side2 => exact (Kd.R_reads' HO_11.out).2.1); rintro e w31 ⟨v675, rfl, ho0, hb⟩; have n0_ := Aside0.mk (Kd.RB (by (with_reducible repeat (first | apply Kd.RA | apply Kd.RN | apply Kd.RD)); exact HO_11.out) hb); have n1_ := Aside0.mk (Kd.RL ho0 (vZ (by repeat (first | (with_reducible first | exact HB.out | apply vA | apply vN | apply vD) | exact HB.out)))); have n2_ := Aside0.mk (vT (by repeat (first | (with_reducible first | exact HB.out | apply vA | apply vN | apply vD) | exact HB.out)) hb); clear HO_11; clear HB; have HO_11 := n0_; have HO676 := n1_; have HB := n2_; clear n0_ n1_ n2_; (try clear hb); (try clear hb2); (try clear hk); (try clear hi); (try clear ho0)) | (go_at_call 14; (with_reducible refine (index_Make.calls k2 _ _ x11_2 a2 t677 _ ?side1 ?side2 A27.out).mono ?_); (case side1 => repeat (first | exact (Kd.R_reads' HO_11.out).2.2 | (with_reducible refine Kd.C_alloc ?_ _) | (with_reducible refine Kd.C_drewN ?_ _) | (with_reducible refine Kd.C_drew ?_))); (case side2 => exact (Kd.R_reads' HO_11.out).2.1); rintro e w32 ⟨v678, rfl, ho0, hb⟩; have n0_ := Aside0.mk (Kd.RB (by (with_reducible repeat (first | apply Kd.RA | apply Kd.RN | apply Kd.RD)); exact HO_11.out) hb); have n1_ := Aside0.mk (Kd.RB (by (with_reducible repeat (first | apply Kd.RA | apply Kd.RN | apply Kd.RD)); exact HO676.out) hb); have n2_ := Aside0.mk (Kd.RL ho0 (vZ (by repeat (first | (with_reducible first | exact HB.out | apply vA | apply vN | apply vD) | exact HB.out)))); have n3_ := Aside0.mk (vT (by repeat (first | (with_reducible first | exact HB.out | apply vA | apply vN | apply vD) | exact HB.out)) hb); clear HO_11; clear HO676; clear HB; have HO_11 := n0_; have HO676 := n1_; have HO679 := n2_; have HB := n3_; clear n0_ n1_ n2_ n3_; (try clear hb); (try clear hb2); (try clear hk); (try clear hi); (try clear ho0); obtain ⟨Ao33, co33, eo33⟩ := Kd.R_slice HO676.out; subst eo33; obtain ⟨Ao34, co34, eo34⟩ := Kd.R_slice HO679.out; subst eo34) | (go_at_call 28; (with_reducible refine (index_Find.calls k2 _ _ t674 _ _ t677 a3 t680 t681 t682 t683 t684 t685 _ ?side1 ?side2 ?side3 ?side4 A28.out).mono ?_); (case side1 => repeat (first | exact (Kd.R_reads' HO676.out).2.2 | (with_reducible refine Kd.C_alloc ?_ _) | (with_reducible refine Kd.C_drewN ?_ _) | (with_reducible refine Kd.C_drew ?_))); (case side2 => exact (Kd.R_reads' HO676.out).2.1); (case side3 => repeat (first | exact (Kd.R_reads' HO679.out).2.2 | (with_reducible refine Kd.C_alloc ?_ _) | (with_reducible refine Kd.C_drewN ?_ _) | (with_reducible refine Kd.C_drew ?_))); (case side4 => exact (Kd.R_reads' HO679.out).2.1); rintro e w35 ⟨rfl, hb⟩; have n0_ := Aside0.mk (Kd.RB (by (with_reducible repeat (first | apply Kd.RA | apply Kd.RN | apply Kd.RD)); exact HO_11.out) hb); have n1_ := Aside0.mk (Kd.RB (by (with_reducible repeat (first | apply Kd.RA | apply Kd.RN | apply Kd.RD)); exact HO676.out) hb); have n2_ := Aside0.mk (Kd.RB (by (with_reducible repeat (first | apply Kd.RA | apply Kd.RN | apply Kd.RD)); exact HO679.out) hb); have n3_ := Aside0.mk (vT (by repeat (first | (with_reducible first | exact HB.out | apply vA | apply vN | apply vD) | exact HB.out)) hb); clear HO_11; clear HO676; clear HO679; clear HB; have HO_11 := n0_; have HO676 := n1_; have HO679 := n2_; have HB := n3_; clear n0_ n1_ n2_ n3_; (try clear hb); (try clear hb2); (try clear hk); (try clear hi)) | ((with_reducible refine gate_dst (N := 17) rfl ?_); (try (refine gate_guard (by rfl) ?_; dsimp only)); refine box_event ?hg (N := 17) ?hd (cs := #[.int .i64 0, .int .i64 0, .string (⟨#[]⟩ : ByteArray), .string (⟨#[]⟩ : ByteArray), .bool false]) (t := 34) ?hr ?_; (case hd => rfl); (case hg => rfl); (case hr => first | (go_simp; done) | (go_simp; rfl)); intro gb686 hg w36 hbox hb; have n0_ := Aside0.mk (Kd.RB (Kd.R_elderB (by (with_reducible repeat (first | apply Kd.RA | apply Kd.RN | apply Kd.RD)); exact HO_11.out) gb686 (Nat.le_of_eq hg.symm)) hb); have n1_ := Aside0.mk (Kd.RB (by (with_reducible repeat (first | apply Kd.RA | apply Kd.RN | apply Kd.RD)); exact HO676.out) hb); have n2_ := Aside0.mk (Kd.RB (by (with_reducible repeat (first | apply Kd.RA | apply Kd.RN | apply Kd.RD)); exact HO679.out) hb); have n3_ := Aside0.mk (vT (by repeat (first | (with_reducible first | exact HB.out | apply vA | apply vN | apply vD) | exact HB.out)) hb); have n4_ := Aside0.mk (hbox); have n5_ := Aside0.mk ((by rw [hg]; exact (vZ (by repeat (first | (with_reducible first | exact HB.out | apply vA | apply vN | apply vD) | exact HB.out))) : w.heap.size ≤ gb686)); have n6_ := Aside0.mk ((by rw [hg]; exact (vZ (by repeat (first | (with_reducible first | exact HB.out | apply vA | apply vN | apply vD) | exact HB.out))) : w.heap.size ≤ gb686)); clear HO_11; clear HO676; clear HO679; clear HB; have HO_11 := n0_; have HO676 := n1_; have HO679 := n2_; have HB := n3_; have BK686 := n4_; have GW686 := n5_; have GE686 := n6_; clear n0_ n1_ n2_ n3_ n4_ n5_ n6_; clear hb hbox hg; have hcz37_0 : w36.cell? ⟨gb686, 0, none⟩ = some (.int .i64 0) := (bC BK686.out 0).trans rfl; have hcz37_1 : w36.cell? ⟨gb686, 1, none⟩ = some (.int .i64 0) := (bC BK686.out 1).trans rfl; have hcz37_2 : w36.cell? ⟨gb686, 2, none⟩ = some (.string (⟨#[]⟩ : ByteArray)) := (bC BK686.out 2).trans rfl; have hcz37_3 : w36.cell? ⟨gb686, 3, none⟩ = some (.string (⟨#[]⟩ : ByteArray)) := (bC BK686.out 3).trans rfl; have hcz37_4 : w36.cell? ⟨gb686, 4, none⟩ = some (.bool false) := (bC BK686.out 4).trans rfl; have hfz37_0 := bF BK686.out 0; have hfz37_1 := bF BK686.out 1; have hfz37_2 := bF BK686.out 2; have hfz37_3 := bF BK686.out 3; have hfz37_4 := bF BK686.out 4) | (go_at_call 30; (with_reducible refine (index_FindTime.calls k2 _ _ t674 _ _ t677 a3 t687 t688 t689 t690 t691 t692 _ ?side1 ?side2 ?side3 ?side4 A29.out).mono ?_); (case side1 => refine (Kd.R_reads' (e := 5) (base := w.heap.size) (ok := fun k_ => True) (n := t674.length) (c := co33) ?_).2.2; exact (by (with_reducible repeat (first | apply Kd.RA | apply Kd.RN | apply Kd.RD)); exact (Kd.RM (Kd.RF (p := ⟨gb686, 4, none⟩) (Kd.RF (p := ⟨gb686, 3, none⟩) (Kd.RF (p := ⟨gb686, 2, none⟩) (Kd.RF (p := ⟨gb686, 1, none⟩) (Kd.RF (p := ⟨gb686, 0, none⟩) (Kd.R_types HO676.out BK686.out (by decide)) (fun _ hk => hk.2) (.int .i64 t680)) (fun _ hk => hk.2) (.int .i64 t681)) (fun _ hk => hk.2) (.string t682)) (fun _ hk => hk.2) (.string t683)) (fun _ hk => hk.2) (.bool t684)) (fun _ h_ => h_.1)))); (case side2 => exact (Kd.R_reads' HO676.out).2.1); (case side3 => refine (Kd.R_reads' (e := 36) (base := w.heap.size) (ok := fun k_ => True) (n := t677.length) (c := co34) ?_).2.2; exact (by (with_reducible repeat (first | apply Kd.RA | apply Kd.RN | apply Kd.RD)); exact (Kd.RM (Kd.RF (p := ⟨gb686, 4, none⟩) (Kd.RF (p := ⟨gb686, 3, none⟩) (Kd.RF (p := ⟨gb686, 2, none⟩) (Kd.RF (p := ⟨gb686, 1, none⟩) (Kd.RF (p := ⟨gb686, 0, none⟩) (Kd.R_types HO679.out BK686.out (by decide)) (fun _ hk => hk.2) (.int .i64 t680)) (fun _ hk => hk.2) (.int .i64 t681)) (fun _ hk => hk.2) (.string t682)) (fun _ hk => hk.2) (.string t683)) (fun _ hk => hk.2) (.bool t684)) (fun _ h_ => h_.1)))); (case side4 => exact (Kd.R_reads' HO679.out).2.1); rintro e w38 ⟨rfl, hb⟩; have n0_ := Aside0.mk (Kd.RB (by (with_reducible repeat (first | apply Kd.RA | apply Kd.RN | apply Kd.RD)); exact (Kd.RM (Kd.RF (p := ⟨gb686, 4, none⟩) (Kd.RF (p := ⟨gb686, 3, none⟩) (Kd.RF (p := ⟨gb686, 2, none⟩) (Kd.RF (p := ⟨gb686, 1, none⟩) (Kd.RF (p := ⟨gb686, 0, none⟩) (Kd.RM HO_11.out (fun k_ hk => (⟨hk, hk.2⟩ : _ ∧ k_ ≠ gb686))) (fun _ hk => hk.2) (.int .i64 t680)) (fun _ hk => hk.2) (.int .i64 t681)) (fun _ hk => hk.2) (.string t682)) (fun _ hk => hk.2) (.string t683)) (fun _ hk => hk.2) (.bool t684)) (fun _ h_ => h_.1))) hb); have n1_ := Aside0.mk (Kd.RB (by (with_reducible repeat (first | apply Kd.RA | apply Kd.RN | apply Kd.RD)); exact (Kd.RM (Kd.RF (p := ⟨gb686, 4, none⟩) (Kd.RF (p := ⟨gb686, 3, none⟩) (Kd.RF (p := ⟨gb686, 2, none⟩) (Kd.RF (p := ⟨gb686, 1, none⟩) (Kd.RF (p := ⟨gb686, 0, none⟩) (Kd.R_types HO676.out BK686.out (by decide)) (fun _ hk => hk.2) (.int .i64 t680)) (fun _ hk => hk.2) (.int .i64 t681)) (fun _ hk => hk.2) (.string t682)) (fun _ hk => hk.2) (.string t683)) (fun _ hk => hk.2) (.bool t684)) (fun _ h_ => h_.1))) hb); have n2_ := Aside0.mk (Kd.RB (by (with_reducible repeat (first | apply Kd.RA | apply Kd.RN | apply Kd.RD)); exact (Kd.RM (Kd.RF (p := ⟨gb686, 4, none⟩) (Kd.RF (p := ⟨gb686, 3, none⟩) (Kd.RF (p := ⟨gb686, 2, none⟩) (Kd.RF (p := ⟨gb686, 1, none⟩) (Kd.RF (p := ⟨gb686, 0, none⟩) (Kd.R_types HO679.out BK686.out (by decide)) (fun _ hk => hk.2) (.int .i64 t680)) (fun _ hk => hk.2) (.int .i64 t681)) (fun _ hk => hk.2) (.string t682)) (fun _ hk => hk.2) (.string t683)) (fun _ hk => hk.2) (.bool t684)) (fun _ h_ => h_.1))) hb); have n3_ := Aside0.mk (bB (g := gb686) (o := .cells #[.int .i64 t680, .int .i64 t681, .string t682, .string t683, .bool t684] 34 (0, 0)) (by (with_reducible repeat (first | refine bN ?_ _ | refine bD ?_ | refine bA ?_ _)); refine bP (cs := #[.int .i64 t680, .int .i64 t681, .string t682, .string t683, .bool false]) ?_ 4 _ rfl; (with_reducible repeat (first | refine bN ?_ _ | refine bD ?_ | refine bA ?_ _)); refine bP (cs := #[.int .i64 t680, .int .i64 t681, .string t682, .string (⟨#[]⟩ : ByteArray), .bool false]) ?_ 3 _ rfl; (with_reducible repeat (first | refine bN ?_ _ | refine bD ?_ | refine bA ?_ _)); refine bP (cs := #[.int .i64 t680, .int .i64 t681, .string (⟨#[]⟩ : ByteArray), .string (⟨#[]⟩ : ByteArray), .bool false]) ?_ 2 _ rfl; (with_reducible repeat (first | refine bN ?_ _ | refine bD ?_ | refine bA ?_ _)); refine bP (cs := #[.int .i64 t680, .int .i64 0, .string (⟨#[]⟩ : ByteArray), .string (⟨#[]⟩ : ByteArray), .bool false]) ?_ 1 _ rfl; (with_reducible repeat (first | refine bN ?_ _ | refine bD ?_ | refine bA ?_ _)); refine bP (cs := #[.int .i64 0, .int .i64 0, .string (⟨#[]⟩ : ByteArray), .string (⟨#[]⟩ : ByteArray), .bool false]) ?_ 0 _ rfl; (with_reducible repeat (first | refine bN ?_ _ | refine bD ?_ | refine bA ?_ _)); exact BK686.out) hb); have n4_ := Aside0.mk (vT (by repeat (first | (with_reducible first | exact HB.out | apply vA | apply vN | apply vD | refine vS ?_ GE686.out) | exact HB.out)) hb); clear HO_11; clear HO676; clear HO679; clear BK686; clear HB; have HO_11 := n0_; have HO676 := n1_; have HO679 := n2_; have BK686 := n3_; have HB := n4_; clear n0_ n1_ n2_ n3_ n4_; (try clear hb); (try clear hb2); (try clear hk); (try clear hi)) | ((with_reducible refine gate_dst (N := 19) rfl ?_); (try (refine gate_guard (by rfl) ?_; dsimp only)); refine box_event ?hg (N := 19) ?hd (cs := #[.int .i64 0, .int .i64 0, .string (⟨#[]⟩ : ByteArray), .string (⟨#[]⟩ : ByteArray), .bool false]) (t := 34) ?hr ?_; (case hd => rfl); (case hg => rfl); (case hr => first | (go_simp; done) | (go_simp; rfl)); intro gb693 hg w39 hbox hb; have n0_ := Aside0.mk (Kd.RB (Kd.R_elderB (by (with_reducible repeat (first | apply Kd.RA | apply Kd.RN | apply Kd.RD)); exact HO_11.out) gb693 (Nat.le_of_eq hg.symm)) hb); have n1_ := Aside0.mk (Kd.RB (by (with_reducible repeat (first | apply Kd.RA | apply Kd.RN | apply Kd.RD)); exact HO676.out) hb); have n2_ := Aside0.mk (Kd.RB (by (with_reducible repeat (first | apply Kd.RA | apply Kd.RN | apply Kd.RD)); exact HO679.out) hb); have n3_ := Aside0.mk (bB (g := gb686) (o := .cells #[.int .i64 t680, .int .i64 t681, .string t682, .string t683, .bool t684] 34 (0, 0)) (by (with_reducible repeat (first | refine bN ?_ _ | refine bD ?_ | refine bA ?_ _)); exact BK686.out) hb); have n4_ := Aside0.mk (vT (by repeat (first | (with_reducible first | exact HB.out | apply vA | apply vN | apply vD | refine vS ?_ GE686.out) | exact HB.out)) hb); have n5_ := Aside0.mk (hbox); have n6_ := Aside0.mk ((by rw [hg]; exact (vZ (by repeat (first | (with_reducible first | exact HB.out | apply vA | apply vN | apply vD | refine vS ?_ GE686.out) | exact HB.out))) : w.heap.size ≤ gb693)); have n7_ := Aside0.mk ((by rw [hg]; exact (vZ (by repeat (first | (with_reducible first | exact HB.out | apply vA | apply vN | apply vD | refine vS ?_ GE686.out) | exact HB.out))) : w.heap.size ≤ gb693)); have n8_ := Aside0.mk ((by rw [hg]; exact Nat.ne_of_lt (blk_lt (g := gb686) (o := .cells #[.int .i64 t680, .int .i64 t681, .string t682, .string t683, .bool t684] 34 (0, 0)) (by (with_reducible repeat (first | refine bN ?_ _ | refine bD ?_ | refine bA ?_ _)); exact BK686.out)) : gb686 ≠ gb693)); have n9_ := Aside0.mk ((by rw [hg]; exact Nat.ne_of_gt (blk_lt (g := gb686) (o := .cells #[.int .i64 t680, .int .i64 t681, .string t682, .string t683, .bool t684] 34 (0, 0)) (by (with_reducible repeat (first | refine bN ?_ _ | refine bD ?_ | refine bA ?_ _)); exact BK686.out)) : gb693 ≠ gb686)); clear HO_11; clear HO676; clear HO679; clear BK686; clear HB; have HO_11 := n0_; have HO676 := n1_; have HO679 := n2_; have BK686 := n3_; have HB := n4_; have BK693 := n5_; have GW693 := n6_; have GE693 := n7_; have NB686_693 := n8_; have NB693_686 := n9_; clear n0_ n1_ n2_ n3_ n4_ n5_ n6_ n7_ n8_ n9_; clear hb hbox hg; have hnb40 := NB693_686.out; have hnc40 := NB686_693.out; have hcz41_0 : w39.cell? ⟨gb693, 0, none⟩ = some (.int .i64 0) := (bC BK693.out 0).trans rfl; have hcz41_1 : w39.cell? ⟨gb693, 1, none⟩ = some (.int .i64 0) := (bC BK693.out 1).trans rfl; have hcz41_2 : w39.cell? ⟨gb693, 2, none⟩ = some (.string (⟨#[]⟩ : ByteArray)) := (bC BK693.out 2).trans rfl; have hcz41_3 : w39.cell? ⟨gb693, 3, none⟩ = some (.string (⟨#[]⟩ : ByteArray)) := (bC BK693.out 3).trans rfl; have hcz41_4 : w39.cell? ⟨gb693, 4, none⟩ = some (.bool false) := (bC BK693.out 4).trans rfl; have hfz41_0 := bF BK693.out 0; have hfz41_1 := bF BK693.out 1; have hfz41_2 := bF BK693.out 2; have hfz41_3 := bF BK693.out 3; have hfz41_4 := bF BK693.out 4))
              repeat (go_quiet (first | (go_at_call 18; (with_reducible refine (cooperageref1_Bytes.calls k2 _ _ x11_2 t674 _ ?side1 ?side2 A26.out).mono ?_); (case side1 => repeat (first | exact (Kd.R_reads' HO_11.out).2.2 | (with_reducible refine Kd.C_alloc ?_ _) | (with_reducible refine Kd.C_drewN ?_ _) | (with_reducible refine Kd.C_drew ?_))); (case side2 => exact (Kd.R_reads' HO_11.out).2.1); rintro e w31 ⟨v675, rfl, ho0, hb⟩; have n0_ := Aside0.mk (Kd.RB (by (with_reducible repeat (first | apply Kd.RA | apply Kd.RN | apply Kd.RD)); exact HO_11.out) hb); have n1_ := Aside0.mk (Kd.RL ho0 (vZ (by repeat (first | (with_reducible first | exact HB.out | apply vA | apply vN | apply vD) | exact HB.out)))); have n2_ := Aside0.mk (vT (by repeat (first | (with_reducible first | exact HB.out | apply vA | apply vN | apply vD) | exact HB.out)) hb); clear HO_11; clear HB; have HO_11 := n0_; have HO676 := n1_; have HB := n2_; clear n0_ n1_ n2_; (try clear hb); (try clear hb2); (try clear hk); (try clear hi); (try clear ho0)) | (go_at_call 14; (with_reducible refine (index_Make.calls k2 _ _ x11_2 a2 t677 _ ?side1 ?side2 A27.out).mono ?_); (case side1 => repeat (first | exact (Kd.R_reads' HO_11.out).2.2 | (with_reducible refine Kd.C_alloc ?_ _) | (with_reducible refine Kd.C_drewN ?_ _) | (with_reducible refine Kd.C_drew ?_))); (case side2 => exact (Kd.R_reads' HO_11.out).2.1); rintro e w32 ⟨v678, rfl, ho0, hb⟩; have n0_ := Aside0.mk (Kd.RB (by (with_reducible repeat (first | apply Kd.RA | apply Kd.RN | apply Kd.RD)); exact HO_11.out) hb); have n1_ := Aside0.mk (Kd.RB (by (with_reducible repeat (first | apply Kd.RA | apply Kd.RN | apply Kd.RD)); exact HO676.out) hb); have n2_ := Aside0.mk (Kd.RL ho0 (vZ (by repeat (first | (with_reducible first | exact HB.out | apply vA | apply vN | apply vD) | exact HB.out)))); have n3_ := Aside0.mk (vT (by repeat (first | (with_reducible first | exact HB.out | apply vA | apply vN | apply vD) | exact HB.out)) hb); clear HO_11; clear HO676; clear HB; have HO_11 := n0_; have HO676 := n1_; have HO679 := n2_; have HB := n3_; clear n0_ n1_ n2_ n3_; (try clear hb); (try clear hb2); (try clear hk); (try clear hi); (try clear ho0); obtain ⟨Ao33, co33, eo33⟩ := Kd.R_slice HO676.out; subst eo33; obtain ⟨Ao34, co34, eo34⟩ := Kd.R_slice HO679.out; subst eo34) | (go_at_call 28; (with_reducible refine (index_Find.calls k2 _ _ t674 _ _ t677 a3 t680 t681 t682 t683 t684 t685 _ ?side1 ?side2 ?side3 ?side4 A28.out).mono ?_); (case side1 => repeat (first | exact (Kd.R_reads' HO676.out).2.2 | (with_reducible refine Kd.C_alloc ?_ _) | (with_reducible refine Kd.C_drewN ?_ _) | (with_reducible refine Kd.C_drew ?_))); (case side2 => exact (Kd.R_reads' HO676.out).2.1); (case side3 => repeat (first | exact (Kd.R_reads' HO679.out).2.2 | (with_reducible refine Kd.C_alloc ?_ _) | (with_reducible refine Kd.C_drewN ?_ _) | (with_reducible refine Kd.C_drew ?_))); (case side4 => exact (Kd.R_reads' HO679.out).2.1); rintro e w35 ⟨rfl, hb⟩; have n0_ := Aside0.mk (Kd.RB (by (with_reducible repeat (first | apply Kd.RA | apply Kd.RN | apply Kd.RD)); exact HO_11.out) hb); have n1_ := Aside0.mk (Kd.RB (by (with_reducible repeat (first | apply Kd.RA | apply Kd.RN | apply Kd.RD)); exact HO676.out) hb); have n2_ := Aside0.mk (Kd.RB (by (with_reducible repeat (first | apply Kd.RA | apply Kd.RN | apply Kd.RD)); exact HO679.out) hb); have n3_ := Aside0.mk (vT (by repeat (first | (with_reducible first | exact HB.out | apply vA | apply vN | apply vD) | exact HB.out)) hb); clear HO_11; clear HO676; clear HO679; clear HB; have HO_11 := n0_; have HO676 := n1_; have HO679 := n2_; have HB := n3_; clear n0_ n1_ n2_ n3_; (try clear hb); (try clear hb2); (try clear hk); (try clear hi)) | ((with_reducible refine gate_dst (N := 17) rfl ?_); (try (refine gate_guard (by rfl) ?_; dsimp only)); refine box_event ?hg (N := 17) ?hd (cs := #[.int .i64 0, .int .i64 0, .string (⟨#[]⟩ : ByteArray), .string (⟨#[]⟩ : ByteArray), .bool false]) (t := 34) ?hr ?_; (case hd => rfl); (case hg => rfl); (case hr => first | (go_simp; done) | (go_simp; rfl)); intro gb686 hg w36 hbox hb; have n0_ := Aside0.mk (Kd.RB (Kd.R_elderB (by (with_reducible repeat (first | apply Kd.RA | apply Kd.RN | apply Kd.RD)); exact HO_11.out) gb686 (Nat.le_of_eq hg.symm)) hb); have n1_ := Aside0.mk (Kd.RB (by (with_reducible repeat (first | apply Kd.RA | apply Kd.RN | apply Kd.RD)); exact HO676.out) hb); have n2_ := Aside0.mk (Kd.RB (by (with_reducible repeat (first | apply Kd.RA | apply Kd.RN | apply Kd.RD)); exact HO679.out) hb); have n3_ := Aside0.mk (vT (by repeat (first | (with_reducible first | exact HB.out | apply vA | apply vN | apply vD) | exact HB.out)) hb); have n4_ := Aside0.mk (hbox); have n5_ := Aside0.mk ((by rw [hg]; exact (vZ (by repeat (first | (with_reducible first | exact HB.out | apply vA | apply vN | apply vD) | exact HB.out))) : w.heap.size ≤ gb686)); have n6_ := Aside0.mk ((by rw [hg]; exact (vZ (by repeat (first | (with_reducible first | exact HB.out | apply vA | apply vN | apply vD) | exact HB.out))) : w.heap.size ≤ gb686)); clear HO_11; clear HO676; clear HO679; clear HB; have HO_11 := n0_; have HO676 := n1_; have HO679 := n2_; have HB := n3_; have BK686 := n4_; have GW686 := n5_; have GE686 := n6_; clear n0_ n1_ n2_ n3_ n4_ n5_ n6_; clear hb hbox hg; have hcz37_0 : w36.cell? ⟨gb686, 0, none⟩ = some (.int .i64 0) := (bC BK686.out 0).trans rfl; have hcz37_1 : w36.cell? ⟨gb686, 1, none⟩ = some (.int .i64 0) := (bC BK686.out 1).trans rfl; have hcz37_2 : w36.cell? ⟨gb686, 2, none⟩ = some (.string (⟨#[]⟩ : ByteArray)) := (bC BK686.out 2).trans rfl; have hcz37_3 : w36.cell? ⟨gb686, 3, none⟩ = some (.string (⟨#[]⟩ : ByteArray)) := (bC BK686.out 3).trans rfl; have hcz37_4 : w36.cell? ⟨gb686, 4, none⟩ = some (.bool false) := (bC BK686.out 4).trans rfl; have hfz37_0 := bF BK686.out 0; have hfz37_1 := bF BK686.out 1; have hfz37_2 := bF BK686.out 2; have hfz37_3 := bF BK686.out 3; have hfz37_4 := bF BK686.out 4) | (go_at_call 30; (with_reducible refine (index_FindTime.calls k2 _ _ t674 _ _ t677 a3 t687 t688 t689 t690 t691 t692 _ ?side1 ?side2 ?side3 ?side4 A29.out).mono ?_); (case side1 => refine (Kd.R_reads' (e := 5) (base := w.heap.size) (ok := fun k_ => True) (n := t674.length) (c := co33) ?_).2.2; exact (by (with_reducible repeat (first | apply Kd.RA | apply Kd.RN | apply Kd.RD)); exact (Kd.RM (Kd.RF (p := ⟨gb686, 4, none⟩) (Kd.RF (p := ⟨gb686, 3, none⟩) (Kd.RF (p := ⟨gb686, 2, none⟩) (Kd.RF (p := ⟨gb686, 1, none⟩) (Kd.RF (p := ⟨gb686, 0, none⟩) (Kd.R_types HO676.out BK686.out (by decide)) (fun _ hk => hk.2) (.int .i64 t680)) (fun _ hk => hk.2) (.int .i64 t681)) (fun _ hk => hk.2) (.string t682)) (fun _ hk => hk.2) (.string t683)) (fun _ hk => hk.2) (.bool t684)) (fun _ h_ => h_.1)))); (case side2 => exact (Kd.R_reads' HO676.out).2.1); (case side3 => refine (Kd.R_reads' (e := 36) (base := w.heap.size) (ok := fun k_ => True) (n := t677.length) (c := co34) ?_).2.2; exact (by (with_reducible repeat (first | apply Kd.RA | apply Kd.RN | apply Kd.RD)); exact (Kd.RM (Kd.RF (p := ⟨gb686, 4, none⟩) (Kd.RF (p := ⟨gb686, 3, none⟩) (Kd.RF (p := ⟨gb686, 2, none⟩) (Kd.RF (p := ⟨gb686, 1, none⟩) (Kd.RF (p := ⟨gb686, 0, none⟩) (Kd.R_types HO679.out BK686.out (by decide)) (fun _ hk => hk.2) (.int .i64 t680)) (fun _ hk => hk.2) (.int .i64 t681)) (fun _ hk => hk.2) (.string t682)) (fun _ hk => hk.2) (.string t683)) (fun _ hk => hk.2) (.bool t684)) (fun _ h_ => h_.1)))); (case side4 => exact (Kd.R_reads' HO679.out).2.1); rintro e w38 ⟨rfl, hb⟩; have n0_ := Aside0.mk (Kd.RB (by (with_reducible repeat (first | apply Kd.RA | apply Kd.RN | apply Kd.RD)); exact (Kd.RM (Kd.RF (p := ⟨gb686, 4, none⟩) (Kd.RF (p := ⟨gb686, 3, none⟩) (Kd.RF (p := ⟨gb686, 2, none⟩) (Kd.RF (p := ⟨gb686, 1, none⟩) (Kd.RF (p := ⟨gb686, 0, none⟩) (Kd.RM HO_11.out (fun k_ hk => (⟨hk, hk.2⟩ : _ ∧ k_ ≠ gb686))) (fun _ hk => hk.2) (.int .i64 t680)) (fun _ hk => hk.2) (.int .i64 t681)) (fun _ hk => hk.2) (.string t682)) (fun _ hk => hk.2) (.string t683)) (fun _ hk => hk.2) (.bool t684)) (fun _ h_ => h_.1))) hb); have n1_ := Aside0.mk (Kd.RB (by (with_reducible repeat (first | apply Kd.RA | apply Kd.RN | apply Kd.RD)); exact (Kd.RM (Kd.RF (p := ⟨gb686, 4, none⟩) (Kd.RF (p := ⟨gb686, 3, none⟩) (Kd.RF (p := ⟨gb686, 2, none⟩) (Kd.RF (p := ⟨gb686, 1, none⟩) (Kd.RF (p := ⟨gb686, 0, none⟩) (Kd.R_types HO676.out BK686.out (by decide)) (fun _ hk => hk.2) (.int .i64 t680)) (fun _ hk => hk.2) (.int .i64 t681)) (fun _ hk => hk.2) (.string t682)) (fun _ hk => hk.2) (.string t683)) (fun _ hk => hk.2) (.bool t684)) (fun _ h_ => h_.1))) hb); have n2_ := Aside0.mk (Kd.RB (by (with_reducible repeat (first | apply Kd.RA | apply Kd.RN | apply Kd.RD)); exact (Kd.RM (Kd.RF (p := ⟨gb686, 4, none⟩) (Kd.RF (p := ⟨gb686, 3, none⟩) (Kd.RF (p := ⟨gb686, 2, none⟩) (Kd.RF (p := ⟨gb686, 1, none⟩) (Kd.RF (p := ⟨gb686, 0, none⟩) (Kd.R_types HO679.out BK686.out (by decide)) (fun _ hk => hk.2) (.int .i64 t680)) (fun _ hk => hk.2) (.int .i64 t681)) (fun _ hk => hk.2) (.string t682)) (fun _ hk => hk.2) (.string t683)) (fun _ hk => hk.2) (.bool t684)) (fun _ h_ => h_.1))) hb); have n3_ := Aside0.mk (bB (g := gb686) (o := .cells #[.int .i64 t680, .int .i64 t681, .string t682, .string t683, .bool t684] 34 (0, 0)) (by (with_reducible repeat (first | refine bN ?_ _ | refine bD ?_ | refine bA ?_ _)); refine bP (cs := #[.int .i64 t680, .int .i64 t681, .string t682, .string t683, .bool false]) ?_ 4 _ rfl; (with_reducible repeat (first | refine bN ?_ _ | refine bD ?_ | refine bA ?_ _)); refine bP (cs := #[.int .i64 t680, .int .i64 t681, .string t682, .string (⟨#[]⟩ : ByteArray), .bool false]) ?_ 3 _ rfl; (with_reducible repeat (first | refine bN ?_ _ | refine bD ?_ | refine bA ?_ _)); refine bP (cs := #[.int .i64 t680, .int .i64 t681, .string (⟨#[]⟩ : ByteArray), .string (⟨#[]⟩ : ByteArray), .bool false]) ?_ 2 _ rfl; (with_reducible repeat (first | refine bN ?_ _ | refine bD ?_ | refine bA ?_ _)); refine bP (cs := #[.int .i64 t680, .int .i64 0, .string (⟨#[]⟩ : ByteArray), .string (⟨#[]⟩ : ByteArray), .bool false]) ?_ 1 _ rfl; (with_reducible repeat (first | refine bN ?_ _ | refine bD ?_ | refine bA ?_ _)); refine bP (cs := #[.int .i64 0, .int .i64 0, .string (⟨#[]⟩ : ByteArray), .string (⟨#[]⟩ : ByteArray), .bool false]) ?_ 0 _ rfl; (with_reducible repeat (first | refine bN ?_ _ | refine bD ?_ | refine bA ?_ _)); exact BK686.out) hb); have n4_ := Aside0.mk (vT (by repeat (first | (with_reducible first | exact HB.out | apply vA | apply vN | apply vD | refine vS ?_ GE686.out) | exact HB.out)) hb); clear HO_11; clear HO676; clear HO679; clear BK686; clear HB; have HO_11 := n0_; have HO676 := n1_; have HO679 := n2_; have BK686 := n3_; have HB := n4_; clear n0_ n1_ n2_ n3_ n4_; (try clear hb); (try clear hb2); (try clear hk); (try clear hi)) | ((with_reducible refine gate_dst (N := 19) rfl ?_); (try (refine gate_guard (by rfl) ?_; dsimp only)); refine box_event ?hg (N := 19) ?hd (cs := #[.int .i64 0, .int .i64 0, .string (⟨#[]⟩ : ByteArray), .string (⟨#[]⟩ : ByteArray), .bool false]) (t := 34) ?hr ?_; (case hd => rfl); (case hg => rfl); (case hr => first | (go_simp; done) | (go_simp; rfl)); intro gb693 hg w39 hbox hb; have n0_ := Aside0.mk (Kd.RB (Kd.R_elderB (by (with_reducible repeat (first | apply Kd.RA | apply Kd.RN | apply Kd.RD)); exact HO_11.out) gb693 (Nat.le_of_eq hg.symm)) hb); have n1_ := Aside0.mk (Kd.RB (by (with_reducible repeat (first | apply Kd.RA | apply Kd.RN | apply Kd.RD)); exact HO676.out) hb); have n2_ := Aside0.mk (Kd.RB (by (with_reducible repeat (first | apply Kd.RA | apply Kd.RN | apply Kd.RD)); exact HO679.out) hb); have n3_ := Aside0.mk (bB (g := gb686) (o := .cells #[.int .i64 t680, .int .i64 t681, .string t682, .string t683, .bool t684] 34 (0, 0)) (by (with_reducible repeat (first | refine bN ?_ _ | refine bD ?_ | refine bA ?_ _)); exact BK686.out) hb); have n4_ := Aside0.mk (vT (by repeat (first | (with_reducible first | exact HB.out | apply vA | apply vN | apply vD | refine vS ?_ GE686.out) | exact HB.out)) hb); have n5_ := Aside0.mk (hbox); have n6_ := Aside0.mk ((by rw [hg]; exact (vZ (by repeat (first | (with_reducible first | exact HB.out | apply vA | apply vN | apply vD | refine vS ?_ GE686.out) | exact HB.out))) : w.heap.size ≤ gb693)); have n7_ := Aside0.mk ((by rw [hg]; exact (vZ (by repeat (first | (with_reducible first | exact HB.out | apply vA | apply vN | apply vD | refine vS ?_ GE686.out) | exact HB.out))) : w.heap.size ≤ gb693)); have n8_ := Aside0.mk ((by rw [hg]; exact Nat.ne_of_lt (blk_lt (g := gb686) (o := .cells #[.int .i64 t680, .int .i64 t681, .string t682, .string t683, .bool t684] 34 (0, 0)) (by (with_reducible repeat (first | refine bN ?_ _ | refine bD ?_ | refine bA ?_ _)); exact BK686.out)) : gb686 ≠ gb693)); have n9_ := Aside0.mk ((by rw [hg]; exact Nat.ne_of_gt (blk_lt (g := gb686) (o := .cells #[.int .i64 t680, .int .i64 t681, .string t682, .string t683, .bool t684] 34 (0, 0)) (by (with_reducible repeat (first | refine bN ?_ _ | refine bD ?_ | refine bA ?_ _)); exact BK686.out)) : gb693 ≠ gb686)); clear HO_11; clear HO676; clear HO679; clear BK686; clear HB; have HO_11 := n0_; have HO676 := n1_; have HO679 := n2_; have BK686 := n3_; have HB := n4_; have BK693 := n5_; have GW693 := n6_; have GE693 := n7_; have NB686_693 := n8_; have NB693_686 := n9_; clear n0_ n1_ n2_ n3_ n4_ n5_ n6_ n7_ n8_ n9_; clear hb hbox hg; have hnb40 := NB693_686.out; have hnc40 := NB686_693.out; have hcz41_0 : w39.cell? ⟨gb693, 0, none⟩ = some (.int .i64 0) := (bC BK693.out 0).trans rfl; have hcz41_1 : w39.cell? ⟨gb693, 1, none⟩ = some (.int .i64 0) := (bC BK693.out 1).trans rfl; have hcz41_2 : w39.cell? ⟨gb693, 2, none⟩ = some (.string (⟨#[]⟩ : ByteArray)) := (bC BK693.out 2).trans rfl; have hcz41_3 : w39.cell? ⟨gb693, 3, none⟩ = some (.string (⟨#[]⟩ : ByteArray)) := (bC BK693.out 3).trans rfl; have hcz41_4 : w39.cell? ⟨gb693, 4, none⟩ = some (.bool false) := (bC BK693.out 4).trans rfl; have hfz41_0 := bF BK693.out 0; have hfz41_1 := bF BK693.out 1; have hfz41_2 := bF BK693.out 2; have hfz41_3 := bF BK693.out 3; have hfz41_4 := bF BK693.out 4)); try go_wp2_with (first | (go_at_call 18; (with_reducible refine (cooperageref1_Bytes.calls k2 _ _ x11_2 t674 _ ?side1 ?side2 A26.out).mono ?_); (case side1 => repeat (first | exact (Kd.R_reads' HO_11.out).2.2 | (with_reducible refine Kd.C_alloc ?_ _) | (with_reducible refine Kd.C_drewN ?_ _) | (with_reducible refine Kd.C_drew ?_))); (case side2 => exact (Kd.R_reads' HO_11.out).2.1); rintro e w31 ⟨v675, rfl, ho0, hb⟩; have n0_ := Aside0.mk (Kd.RB (by (with_reducible repeat (first | apply Kd.RA | apply Kd.RN | apply Kd.RD)); exact HO_11.out) hb); have n1_ := Aside0.mk (Kd.RL ho0 (vZ (by repeat (first | (with_reducible first | exact HB.out | apply vA | apply vN | apply vD) | exact HB.out)))); have n2_ := Aside0.mk (vT (by repeat (first | (with_reducible first | exact HB.out | apply vA | apply vN | apply vD) | exact HB.out)) hb); clear HO_11; clear HB; have HO_11 := n0_; have HO676 := n1_; have HB := n2_; clear n0_ n1_ n2_; (try clear hb); (try clear hb2); (try clear hk); (try clear hi); (try clear ho0)) | (go_at_call 14; (with_reducible refine (index_Make.calls k2 _ _ x11_2 a2 t677 _ ?side1 ?side2 A27.out).mono ?_); (case side1 => repeat (first | exact (Kd.R_reads' HO_11.out).2.2 | (with_reducible refine Kd.C_alloc ?_ _) | (with_reducible refine Kd.C_drewN ?_ _) | (with_reducible refine Kd.C_drew ?_))); (case side2 => exact (Kd.R_reads' HO_11.out).2.1); rintro e w32 ⟨v678, rfl, ho0, hb⟩; have n0_ := Aside0.mk (Kd.RB (by (with_reducible repeat (first | apply Kd.RA | apply Kd.RN | apply Kd.RD)); exact HO_11.out) hb); have n1_ := Aside0.mk (Kd.RB (by (with_reducible repeat (first | apply Kd.RA | apply Kd.RN | apply Kd.RD)); exact HO676.out) hb); have n2_ := Aside0.mk (Kd.RL ho0 (vZ (by repeat (first | (with_reducible first | exact HB.out | apply vA | apply vN | apply vD) | exact HB.out)))); have n3_ := Aside0.mk (vT (by repeat (first | (with_reducible first | exact HB.out | apply vA | apply vN | apply vD) | exact HB.out)) hb); clear HO_11; clear HO676; clear HB; have HO_11 := n0_; have HO676 := n1_; have HO679 := n2_; have HB := n3_; clear n0_ n1_ n2_ n3_; (try clear hb); (try clear hb2); (try clear hk); (try clear hi); (try clear ho0); obtain ⟨Ao33, co33, eo33⟩ := Kd.R_slice HO676.out; subst eo33; obtain ⟨Ao34, co34, eo34⟩ := Kd.R_slice HO679.out; subst eo34) | (go_at_call 28; (with_reducible refine (index_Find.calls k2 _ _ t674 _ _ t677 a3 t680 t681 t682 t683 t684 t685 _ ?side1 ?side2 ?side3 ?side4 A28.out).mono ?_); (case side1 => repeat (first | exact (Kd.R_reads' HO676.out).2.2 | (with_reducible refine Kd.C_alloc ?_ _) | (with_reducible refine Kd.C_drewN ?_ _) | (with_reducible refine Kd.C_drew ?_))); (case side2 => exact (Kd.R_reads' HO676.out).2.1); (case side3 => repeat (first | exact (Kd.R_reads' HO679.out).2.2 | (with_reducible refine Kd.C_alloc ?_ _) | (with_reducible refine Kd.C_drewN ?_ _) | (with_reducible refine Kd.C_drew ?_))); (case side4 => exact (Kd.R_reads' HO679.out).2.1); rintro e w35 ⟨rfl, hb⟩; have n0_ := Aside0.mk (Kd.RB (by (with_reducible repeat (first | apply Kd.RA | apply Kd.RN | apply Kd.RD)); exact HO_11.out) hb); have n1_ := Aside0.mk (Kd.RB (by (with_reducible repeat (first | apply Kd.RA | apply Kd.RN | apply Kd.RD)); exact HO676.out) hb); have n2_ := Aside0.mk (Kd.RB (by (with_reducible repeat (first | apply Kd.RA | apply Kd.RN | apply Kd.RD)); exact HO679.out) hb); have n3_ := Aside0.mk (vT (by repeat (first | (with_reducible first | exact HB.out | apply vA | apply vN | apply vD) | exact HB.out)) hb); clear HO_11; clear HO676; clear HO679; clear HB; have HO_11 := n0_; have HO676 := n1_; have HO679 := n2_; have HB := n3_; clear n0_ n1_ n2_ n3_; (try clear hb); (try clear hb2); (try clear hk); (try clear hi)) | ((with_reducible refine gate_dst (N := 17) rfl ?_); (try (refine gate_guard (by rfl) ?_; dsimp only)); refine box_event ?hg (N := 17) ?hd (cs := #[.int .i64 0, .int .i64 0, .string (⟨#[]⟩ : ByteArray), .string (⟨#[]⟩ : ByteArray), .bool false]) (t := 34) ?hr ?_; (case hd => rfl); (case hg => rfl); (case hr => first | (go_simp; done) | (go_simp; rfl)); intro gb686 hg w36 hbox hb; have n0_ := Aside0.mk (Kd.RB (Kd.R_elderB (by (with_reducible repeat (first | apply Kd.RA | apply Kd.RN | apply Kd.RD)); exact HO_11.out) gb686 (Nat.le_of_eq hg.symm)) hb); have n1_ := Aside0.mk (Kd.RB (by (with_reducible repeat (first | apply Kd.RA | apply Kd.RN | apply Kd.RD)); exact HO676.out) hb); have n2_ := Aside0.mk (Kd.RB (by (with_reducible repeat (first | apply Kd.RA | apply Kd.RN | apply Kd.RD)); exact HO679.out) hb); have n3_ := Aside0.mk (vT (by repeat (first | (with_reducible first | exact HB.out | apply vA | apply vN | apply vD) | exact HB.out)) hb); have n4_ := Aside0.mk (hbox); have n5_ := Aside0.mk ((by rw [hg]; exact (vZ (by repeat (first | (with_reducible first | exact HB.out | apply vA | apply vN | apply vD) | exact HB.out))) : w.heap.size ≤ gb686)); have n6_ := Aside0.mk ((by rw [hg]; exact (vZ (by repeat (first | (with_reducible first | exact HB.out | apply vA | apply vN | apply vD) | exact HB.out))) : w.heap.size ≤ gb686)); clear HO_11; clear HO676; clear HO679; clear HB; have HO_11 := n0_; have HO676 := n1_; have HO679 := n2_; have HB := n3_; have BK686 := n4_; have GW686 := n5_; have GE686 := n6_; clear n0_ n1_ n2_ n3_ n4_ n5_ n6_; clear hb hbox hg; have hcz37_0 : w36.cell? ⟨gb686, 0, none⟩ = some (.int .i64 0) := (bC BK686.out 0).trans rfl; have hcz37_1 : w36.cell? ⟨gb686, 1, none⟩ = some (.int .i64 0) := (bC BK686.out 1).trans rfl; have hcz37_2 : w36.cell? ⟨gb686, 2, none⟩ = some (.string (⟨#[]⟩ : ByteArray)) := (bC BK686.out 2).trans rfl; have hcz37_3 : w36.cell? ⟨gb686, 3, none⟩ = some (.string (⟨#[]⟩ : ByteArray)) := (bC BK686.out 3).trans rfl; have hcz37_4 : w36.cell? ⟨gb686, 4, none⟩ = some (.bool false) := (bC BK686.out 4).trans rfl; have hfz37_0 := bF BK686.out 0; have hfz37_1 := bF BK686.out 1; have hfz37_2 := bF BK686.out 2; have hfz37_3 := bF BK686.out 3; have hfz37_4 := bF BK686.out 4) | (go_at_call 30; (with_reducible refine (index_FindTime.calls k2 _ _ t674 _ _ t677 a3 t687 t688 t689 t690 t691 t692 _ ?side1 ?side2 ?side3 ?side4 A29.out).mono ?_); (case side1 => refine (Kd.R_reads' (e := 5) (base := w.heap.size) (ok := fun k_ => True) (n := t674.length) (c := co33) ?_).2.2; exact (by (with_reducible repeat (first | apply Kd.RA | apply Kd.RN | apply Kd.RD)); exact (Kd.RM (Kd.RF (p := ⟨gb686, 4, none⟩) (Kd.RF (p := ⟨gb686, 3, none⟩) (Kd.RF (p := ⟨gb686, 2, none⟩) (Kd.RF (p := ⟨gb686, 1, none⟩) (Kd.RF (p := ⟨gb686, 0, none⟩) (Kd.R_types HO676.out BK686.out (by decide)) (fun _ hk => hk.2) (.int .i64 t680)) (fun _ hk => hk.2) (.int .i64 t681)) (fun _ hk => hk.2) (.string t682)) (fun _ hk => hk.2) (.string t683)) (fun _ hk => hk.2) (.bool t684)) (fun _ h_ => h_.1)))); (case side2 => exact (Kd.R_reads' HO676.out).2.1); (case side3 => refine (Kd.R_reads' (e := 36) (base := w.heap.size) (ok := fun k_ => True) (n := t677.length) (c := co34) ?_).2.2; exact (by (with_reducible repeat (first | apply Kd.RA | apply Kd.RN | apply Kd.RD)); exact (Kd.RM (Kd.RF (p := ⟨gb686, 4, none⟩) (Kd.RF (p := ⟨gb686, 3, none⟩) (Kd.RF (p := ⟨gb686, 2, none⟩) (Kd.RF (p := ⟨gb686, 1, none⟩) (Kd.RF (p := ⟨gb686, 0, none⟩) (Kd.R_types HO679.out BK686.out (by decide)) (fun _ hk => hk.2) (.int .i64 t680)) (fun _ hk => hk.2) (.int .i64 t681)) (fun _ hk => hk.2) (.string t682)) (fun _ hk => hk.2) (.string t683)) (fun _ hk => hk.2) (.bool t684)) (fun _ h_ => h_.1)))); (case side4 => exact (Kd.R_reads' HO679.out).2.1); rintro e w38 ⟨rfl, hb⟩; have n0_ := Aside0.mk (Kd.RB (by (with_reducible repeat (first | apply Kd.RA | apply Kd.RN | apply Kd.RD)); exact (Kd.RM (Kd.RF (p := ⟨gb686, 4, none⟩) (Kd.RF (p := ⟨gb686, 3, none⟩) (Kd.RF (p := ⟨gb686, 2, none⟩) (Kd.RF (p := ⟨gb686, 1, none⟩) (Kd.RF (p := ⟨gb686, 0, none⟩) (Kd.RM HO_11.out (fun k_ hk => (⟨hk, hk.2⟩ : _ ∧ k_ ≠ gb686))) (fun _ hk => hk.2) (.int .i64 t680)) (fun _ hk => hk.2) (.int .i64 t681)) (fun _ hk => hk.2) (.string t682)) (fun _ hk => hk.2) (.string t683)) (fun _ hk => hk.2) (.bool t684)) (fun _ h_ => h_.1))) hb); have n1_ := Aside0.mk (Kd.RB (by (with_reducible repeat (first | apply Kd.RA | apply Kd.RN | apply Kd.RD)); exact (Kd.RM (Kd.RF (p := ⟨gb686, 4, none⟩) (Kd.RF (p := ⟨gb686, 3, none⟩) (Kd.RF (p := ⟨gb686, 2, none⟩) (Kd.RF (p := ⟨gb686, 1, none⟩) (Kd.RF (p := ⟨gb686, 0, none⟩) (Kd.R_types HO676.out BK686.out (by decide)) (fun _ hk => hk.2) (.int .i64 t680)) (fun _ hk => hk.2) (.int .i64 t681)) (fun _ hk => hk.2) (.string t682)) (fun _ hk => hk.2) (.string t683)) (fun _ hk => hk.2) (.bool t684)) (fun _ h_ => h_.1))) hb); have n2_ := Aside0.mk (Kd.RB (by (with_reducible repeat (first | apply Kd.RA | apply Kd.RN | apply Kd.RD)); exact (Kd.RM (Kd.RF (p := ⟨gb686, 4, none⟩) (Kd.RF (p := ⟨gb686, 3, none⟩) (Kd.RF (p := ⟨gb686, 2, none⟩) (Kd.RF (p := ⟨gb686, 1, none⟩) (Kd.RF (p := ⟨gb686, 0, none⟩) (Kd.R_types HO679.out BK686.out (by decide)) (fun _ hk => hk.2) (.int .i64 t680)) (fun _ hk => hk.2) (.int .i64 t681)) (fun _ hk => hk.2) (.string t682)) (fun _ hk => hk.2) (.string t683)) (fun _ hk => hk.2) (.bool t684)) (fun _ h_ => h_.1))) hb); have n3_ := Aside0.mk (bB (g := gb686) (o := .cells #[.int .i64 t680, .int .i64 t681, .string t682, .string t683, .bool t684] 34 (0, 0)) (by (with_reducible repeat (first | refine bN ?_ _ | refine bD ?_ | refine bA ?_ _)); refine bP (cs := #[.int .i64 t680, .int .i64 t681, .string t682, .string t683, .bool false]) ?_ 4 _ rfl; (with_reducible repeat (first | refine bN ?_ _ | refine bD ?_ | refine bA ?_ _)); refine bP (cs := #[.int .i64 t680, .int .i64 t681, .string t682, .string (⟨#[]⟩ : ByteArray), .bool false]) ?_ 3 _ rfl; (with_reducible repeat (first | refine bN ?_ _ | refine bD ?_ | refine bA ?_ _)); refine bP (cs := #[.int .i64 t680, .int .i64 t681, .string (⟨#[]⟩ : ByteArray), .string (⟨#[]⟩ : ByteArray), .bool false]) ?_ 2 _ rfl; (with_reducible repeat (first | refine bN ?_ _ | refine bD ?_ | refine bA ?_ _)); refine bP (cs := #[.int .i64 t680, .int .i64 0, .string (⟨#[]⟩ : ByteArray), .string (⟨#[]⟩ : ByteArray), .bool false]) ?_ 1 _ rfl; (with_reducible repeat (first | refine bN ?_ _ | refine bD ?_ | refine bA ?_ _)); refine bP (cs := #[.int .i64 0, .int .i64 0, .string (⟨#[]⟩ : ByteArray), .string (⟨#[]⟩ : ByteArray), .bool false]) ?_ 0 _ rfl; (with_reducible repeat (first | refine bN ?_ _ | refine bD ?_ | refine bA ?_ _)); exact BK686.out) hb); have n4_ := Aside0.mk (vT (by repeat (first | (with_reducible first | exact HB.out | apply vA | apply vN | apply vD | refine vS ?_ GE686.out) | exact HB.out)) hb); clear HO_11; clear HO676; clear HO679; clear BK686; clear HB; have HO_11 := n0_; have HO676 := n1_; have HO679 := n2_; have BK686 := n3_; have HB := n4_; clear n0_ n1_ n2_ n3_ n4_; (try clear hb); (try clear hb2); (try clear hk); (try clear hi)) | ((with_reducible refine gate_dst (N := 19) rfl ?_); (try (refine gate_guard (by rfl) ?_; dsimp only)); refine box_event ?hg (N := 19) ?hd (cs := #[.int .i64 0, .int .i64 0, .string (⟨#[]⟩ : ByteArray), .string (⟨#[]⟩ : ByteArray), .bool false]) (t := 34) ?hr ?_; (case hd => rfl); (case hg => rfl); (case hr => first | (go_simp; done) | (go_simp; rfl)); intro gb693 hg w39 hbox hb; have n0_ := Aside0.mk (Kd.RB (Kd.R_elderB (by (with_reducible repeat (first | apply Kd.RA | apply Kd.RN | apply Kd.RD)); exact HO_11.out) gb693 (Nat.le_of_eq hg.symm)) hb); have n1_ := Aside0.mk (Kd.RB (by (with_reducible repeat (first | apply Kd.RA | apply Kd.RN | apply Kd.RD)); exact HO676.out) hb); have n2_ := Aside0.mk (Kd.RB (by (with_reducible repeat (first | apply Kd.RA | apply Kd.RN | apply Kd.RD)); exact HO679.out) hb); have n3_ := Aside0.mk (bB (g := gb686) (o := .cells #[.int .i64 t680, .int .i64 t681, .string t682, .string t683, .bool t684] 34 (0, 0)) (by (with_reducible repeat (first | refine bN ?_ _ | refine bD ?_ | refine bA ?_ _)); exact BK686.out) hb); have n4_ := Aside0.mk (vT (by repeat (first | (with_reducible first | exact HB.out | apply vA | apply vN | apply vD | refine vS ?_ GE686.out) | exact HB.out)) hb); have n5_ := Aside0.mk (hbox); have n6_ := Aside0.mk ((by rw [hg]; exact (vZ (by repeat (first | (with_reducible first | exact HB.out | apply vA | apply vN | apply vD | refine vS ?_ GE686.out) | exact HB.out))) : w.heap.size ≤ gb693)); have n7_ := Aside0.mk ((by rw [hg]; exact (vZ (by repeat (first | (with_reducible first | exact HB.out | apply vA | apply vN | apply vD | refine vS ?_ GE686.out) | exact HB.out))) : w.heap.size ≤ gb693)); have n8_ := Aside0.mk ((by rw [hg]; exact Nat.ne_of_lt (blk_lt (g := gb686) (o := .cells #[.int .i64 t680, .int .i64 t681, .string t682, .string t683, .bool t684] 34 (0, 0)) (by (with_reducible repeat (first | refine bN ?_ _ | refine bD ?_ | refine bA ?_ _)); exact BK686.out)) : gb686 ≠ gb693)); have n9_ := Aside0.mk ((by rw [hg]; exact Nat.ne_of_gt (blk_lt (g := gb686) (o := .cells #[.int .i64 t680, .int .i64 t681, .string t682, .string t683, .bool t684] 34 (0, 0)) (by (with_reducible repeat (first | refine bN ?_ _ | refine bD ?_ | refine bA ?_ _)); exact BK686.out)) : gb693 ≠ gb686)); clear HO_11; clear HO676; clear HO679; clear BK686; clear HB; have HO_11 := n0_; have HO676 := n1_; have HO679 := n2_; have BK686 := n3_; have HB := n4_; have BK693 := n5_; have GW693 := n6_; have GE693 := n7_; have NB686_693 := n8_; have NB693_686 := n9_; clear n0_ n1_ n2_ n3_ n4_ n5_ n6_ n7_ n8_ n9_; clear hb hbox hg; have hnb40 := NB693_686.out; have hnc40 := NB686_693.out; have hcz41_0 : w39.cell? ⟨gb693, 0, none⟩ = some (.int .i64 0) := (bC BK693.out 0).trans rfl; have hcz41_1 : w39.cell? ⟨gb693, 1, none⟩ = some (.int .i64 0) := (bC BK693.out 1).trans rfl; have hcz41_2 : w39.cell? ⟨gb693, 2, none⟩ = some (.string (⟨#[]⟩ : ByteArray)) := (bC BK693.out 2).trans rfl; have hcz41_3 : w39.cell? ⟨gb693, 3, none⟩ = some (.string (⟨#[]⟩ : ByteArray)) := (bC BK693.out 3).trans rfl; have hcz41_4 : w39.cell? ⟨gb693, 4, none⟩ = some (.bool false) := (bC BK693.out 4).trans rfl; have hfz41_0 := bF BK693.out 0; have hfz41_1 := bF BK693.out 1; have hfz41_2 := bF BK693.out 2; have hfz41_3 := bF BK693.out 3; have hfz41_4 := bF BK693.out 4)))
              go_loopg [21, 22, 23] k2 (fun kq v21 v22 v23 w' => ∃ (x21_3 : Bool) (x22_3 : Bool) (x23_3 : Int), v21 = .bool x21_3 ∧ v22 = .bool x22_3 ∧ v23 = .int .i64 x23_3 ∧ Aside0 (cooperagelaw9_IndexFinds.l1 kq a3 x11_2 t685 t692 x21_3 x22_3 x23_3 t680 t681 t682 t683 t684 t687 t688 t689 t690 t691 = some true) ∧ Aside0 (kq ≤ k2) ∧ Aside0 (Kd.R k34 34 w' w.heap.size (fun k_ => k_ ≠ gb686 ∧ k_ ≠ gb693) (.slice Ao30 x11_2.length co30) x11_2) ∧ Aside0 (w'.heap[gb686]? = some (.cells #[.int .i64 t680, .int .i64 t681, .string t682, .string t683, .bool t684] 34 (0, 0))) ∧ Aside0 (w'.heap[gb693]? = some (.cells #[.int .i64 t687, .int .i64 t688, .string t689, .string t690, .bool t691] 34 (0, 0))) ∧ Aside0 (Below w.heap.size w w'))
              case atStart => exact ⟨(true), (true), (0), (by first | rfl | (simp; done) | (simp [*]; done)), (by first | rfl | (simp; done) | (simp [*]; done)), (by first | rfl | (simp; done) | (simp [*]; done)), H', ⟨Nat.le_refl _⟩, ⟨by (with_reducible repeat (first | apply Kd.RA | apply Kd.RN | apply Kd.RD)); exact Kd.RM (Kd.RF (p := ⟨gb693, 4, none⟩) (Kd.RF (p := ⟨gb693, 3, none⟩) (Kd.RF (p := ⟨gb693, 2, none⟩) (Kd.RF (p := ⟨gb693, 1, none⟩) (Kd.RF (p := ⟨gb693, 0, none⟩) (Kd.RM HO_11.out (fun k_ hk => (⟨hk, hk.2⟩ : _ ∧ k_ ≠ gb693))) (fun _ hk => hk.2) (.int .i64 t687)) (fun _ hk => hk.2) (.int .i64 t688)) (fun _ hk => hk.2) (.string t689)) (fun _ hk => hk.2) (.string t690)) (fun _ hk => hk.2) (.bool t691)) (fun _ hk => ⟨hk.1.1.2, hk.1.2⟩)⟩, ⟨by (with_reducible repeat (first | refine bN ?_ _ | refine bD ?_ | refine bA ?_ _)); refine bR ?_ NB686_693.out _; (with_reducible repeat (first | refine bN ?_ _ | refine bD ?_ | refine bA ?_ _)); refine bR ?_ NB686_693.out _; (with_reducible repeat (first | refine bN ?_ _ | refine bD ?_ | refine bA ?_ _)); refine bR ?_ NB686_693.out _; (with_reducible repeat (first | refine bN ?_ _ | refine bD ?_ | refine bA ?_ _)); refine bR ?_ NB686_693.out _; (with_reducible repeat (first | refine bN ?_ _ | refine bD ?_ | refine bA ?_ _)); refine bR ?_ NB686_693.out _; (with_reducible repeat (first | refine bN ?_ _ | refine bD ?_ | refine bA ?_ _)); exact BK686.out⟩, ⟨by (with_reducible repeat (first | refine bN ?_ _ | refine bD ?_ | refine bA ?_ _)); refine bP (cs := #[.int .i64 t687, .int .i64 t688, .string t689, .string t690, .bool false]) ?_ 4 _ rfl; (with_reducible repeat (first | refine bN ?_ _ | refine bD ?_ | refine bA ?_ _)); refine bP (cs := #[.int .i64 t687, .int .i64 t688, .string t689, .string (⟨#[]⟩ : ByteArray), .bool false]) ?_ 3 _ rfl; (with_reducible repeat (first | refine bN ?_ _ | refine bD ?_ | refine bA ?_ _)); refine bP (cs := #[.int .i64 t687, .int .i64 t688, .string (⟨#[]⟩ : ByteArray), .string (⟨#[]⟩ : ByteArray), .bool false]) ?_ 2 _ rfl; (with_reducible repeat (first | refine bN ?_ _ | refine bD ?_ | refine bA ?_ _)); refine bP (cs := #[.int .i64 t687, .int .i64 0, .string (⟨#[]⟩ : ByteArray), .string (⟨#[]⟩ : ByteArray), .bool false]) ?_ 1 _ rfl; (with_reducible repeat (first | refine bN ?_ _ | refine bD ?_ | refine bA ?_ _)); refine bP (cs := #[.int .i64 0, .int .i64 0, .string (⟨#[]⟩ : ByteArray), .string (⟨#[]⟩ : ByteArray), .bool false]) ?_ 0 _ rfl; (with_reducible repeat (first | refine bN ?_ _ | refine bD ?_ | refine bA ?_ _)); exact BK693.out⟩, ⟨by repeat (first | (with_reducible first | exact HB.out | apply vA | apply vN | apply vD | refine vS ?_ GE686.out | refine vS ?_ GE693.out) | exact HB.out)⟩⟩
              case round =>
                clear H'
                try clear c1
                try clear p2
                try clear c4
                try clear p6
                try clear q6
                try clear hx6
                try clear c9
                try clear c10
                try clear c11
                try clear c12
                try clear c12b0
                try clear c13
                try clear c13b0
                try clear c14
                try clear c14b0
                try clear c16
                try clear c17
                try clear c40
                try clear hcz19_0
                try clear hcz19_1
                try clear hcz19_2
                try clear hcz19_3
                try clear hcz19_4
                try clear hcz21_0
                try clear hcz21_1
                try clear hcz21_2
                try clear hcz21_3
                try clear hcz21_4
                try clear hcz24_0
                try clear hcz24_1
                try clear hcz24_2
                try clear hcz24_3
                try clear hcz24_4
                try clear hcz37_0
                try clear hcz37_1
                try clear hcz37_2
                try clear hcz37_3
                try clear hcz37_4
                try clear hcz41_0
                try clear hcz41_1
                try clear hcz41_2
                try clear hcz41_3
                try clear hcz41_4
                try clear hfz19_0
                try clear hfz19_1
                try clear hfz19_2
                try clear hfz19_3
                try clear hfz19_4
                try clear hfz21_0
                try clear hfz21_1
                try clear hfz21_2
                try clear hfz21_3
                try clear hfz21_4
                try clear hfz24_0
                try clear hfz24_1
                try clear hfz24_2
                try clear hfz24_3
                try clear hfz24_4
                try clear hfz37_0
                try clear hfz37_1
                try clear hfz37_2
                try clear hfz37_3
                try clear hfz37_4
                try clear hfz41_0
                try clear hfz41_1
                try clear hfz41_2
                try clear hfz41_3
                try clear hfz41_4
                try clear hx667_0
                try clear hx667_1
                try clear hx667_2
                try clear hx667_3
                try clear hx667_4
                try clear hx669_0
                try clear p2
                try clear p667
                try clear p669
                try clear q667
                try clear q669
                obtain ⟨x21_3, x22_3, x23_3, rfl, rfl, rfl, HA, HK3, HO_11, BK686, BK693, HB⟩ := hrel
                cases gk with
                | zero => exact absurd HA.out (by simp [cooperagelaw9_IndexFinds.l1])
                | succ k3 =>
                  have H := HA.out
                  clear HA
                  simp only [cooperagelaw9_IndexFinds.l1] at H
                  by_cases c42 : x23_3 < (x11_2.length : Int)
                  · rw [if_pos c42] at H
                    have c42b0 : decide (x23_3 < (x11_2.length : Int)) = true := decide_eq_true c42
                    clear c42
                    have HC43 := Aside0.mk H
                    clear H
                    go_upto_region 24 with (fail)
                    repeat (go_quiet (fail); go_upto_region 24 with (fail))
                    go_cut [100] (fun v100 wc => ∃ (kq : Nat) (x100_42 : Bool), v100 = .bool x100_42 ∧ Aside0 (cooperagelaw9_IndexFinds.j3 kq a3 x11_2 t685 t692 x21_3 x22_3 x23_3 x100_42 t680 t681 t682 t683 t684 t687 t688 t689 t690 t691 = some true) ∧ Aside0 (kq ≤ k3) ∧ Aside0 (Kd.R k34 34 wc w.heap.size (fun k_ => k_ ≠ gb686 ∧ k_ ≠ gb693) (.slice Ao30 x11_2.length co30) x11_2) ∧ Aside0 (wc.heap[gb686]? = some (.cells #[.int .i64 t680, .int .i64 t681, .string t682, .string t683, .bool t684] 34 (0, 0))) ∧ Aside0 (wc.heap[gb693]? = some (.cells #[.int .i64 t687, .int .i64 t688, .string t689, .string t690, .bool t691] 34 (0, 0))) ∧ Aside0 (Below w.heap.size w wc))
                    case first =>
                      have H := HC43.out
                      clear HC43
                      by_cases c44 : x21_3 = true
                      · subst c44
                        have H1 : (if 0 ≤ x23_3 then (cooperagelaw9_IndexFinds.j3 k3 a3 x11_2 t685 t692 true x22_3 x23_3 (decide (((rd_T34 x11_2 x23_3).f0) ≥ a3)) t680 t681 t682 t683 t684 t687 t688 t689 t690 t691) else (none)) = some true := by rw [if_pos rfl] at H; exact H
                        clear H
                        have H := H1
                        clear H1
                        by_cases c45 : 0 ≤ x23_3
                        · rw [if_pos c45] at H
                          have c45b0 : decide (0 ≤ x23_3) = true := decide_eq_true c45
                          clear c45
                          (first | rw [c45b0] | (simp only [i64_w, i32_w]; rw [c45b0]) | skip)
                          have H' := Aside0.mk H
                          clear H
                          have p694 : 0 ≤ (x23_3 : Int) := of_decide_eq_true (by first | (with_reducible assumption) | assumption)
                          have q694 : x23_3 < (x11_2.length : Int) := of_decide_eq_true (by first | (with_reducible assumption) | assumption)
                          obtain ⟨ad694, e694, hx694_0, hx694_1, hx694_2, hx694_3, hx694_4⟩ := at_T34 (Kd.R_reads' HO_11.out).2.2 x23_3 p694 q694
                          cases e694
                          replace p694 := eq_true p694
                          replace q694 := eq_true q694
                          go_wp2
                          repeat (go_quiet (fail); try go_wp2)
                          go_meet
                          case rel => exact ⟨_, (decide (((rd_T34 x11_2 x23_3).f0) ≥ a3)), (by first | rfl | (simp; done) | (simp [*]; done)), H', ⟨by have := HJ6.out; have := HK2.out; have := HK3.out; first | omega | exact Nat.le_refl _⟩, ⟨by (with_reducible repeat (first | apply Kd.RA | apply Kd.RN | apply Kd.RD)); exact HO_11.out⟩, ⟨by (with_reducible repeat (first | refine bN ?_ _ | refine bD ?_ | refine bA ?_ _)); exact BK686.out⟩, ⟨by (with_reducible repeat (first | refine bN ?_ _ | refine bD ?_ | refine bA ?_ _)); exact BK693.out⟩, ⟨by repeat (first | (with_reducible first | exact HB.out | apply vA | apply vN | apply vD | refine vS ?_ GE686.out | refine vS ?_ GE693.out) | exact HB.out)⟩⟩
                        · rw [if_neg c45] at H
                          exact absurd H (by simp)
                      · replace c44 := Bool.eq_false_iff.mpr c44
                        subst c44
                        have H1 : (cooperagelaw9_IndexFinds.j3 k3 a3 x11_2 t685 t692 false x22_3 x23_3 false t680 t681 t682 t683 t684 t687 t688 t689 t690 t691) = some true := by rw [if_neg (show ¬ (false = true) by decide)] at H; exact H
                        clear H
                        have H := H1
                        clear H1
                        have H' := Aside0.mk H
                        clear H
                        go_wp2
                        repeat (go_quiet (fail); try go_wp2)
                        go_meet
                        case rel => exact ⟨_, (false), (by first | rfl | (simp; done) | (simp [*]; done)), H', ⟨by have := HJ6.out; have := HK2.out; have := HK3.out; first | omega | exact Nat.le_refl _⟩, ⟨by (with_reducible repeat (first | apply Kd.RA | apply Kd.RN | apply Kd.RD)); exact HO_11.out⟩, ⟨by (with_reducible repeat (first | refine bN ?_ _ | refine bD ?_ | refine bA ?_ _)); exact BK686.out⟩, ⟨by (with_reducible repeat (first | refine bN ?_ _ | refine bD ?_ | refine bA ?_ _)); exact BK693.out⟩, ⟨by repeat (first | (with_reducible first | exact HB.out | apply vA | apply vN | apply vD | refine vS ?_ GE686.out | refine vS ?_ GE693.out) | exact HB.out)⟩⟩
                    case rest =>
                      clear HC43
                      try clear c1
                      try clear p2
                      try clear c4
                      try clear p6
                      try clear q6
                      try clear hx6
                      try clear c9
                      try clear c10
                      try clear c11
                      try clear c12
                      try clear c12b0
                      try clear c13
                      try clear c13b0
                      try clear c14
                      try clear c14b0
                      try clear c16
                      try clear c17
                      try clear c40
                      try clear c42
                      try clear c42b0
                      try clear c44
                      try clear c45
                      try clear c45b0
                      try clear hcz19_0
                      try clear hcz19_1
                      try clear hcz19_2
                      try clear hcz19_3
                      try clear hcz19_4
                      try clear hcz21_0
                      try clear hcz21_1
                      try clear hcz21_2
                      try clear hcz21_3
                      try clear hcz21_4
                      try clear hcz24_0
                      try clear hcz24_1
                      try clear hcz24_2
                      try clear hcz24_3
                      try clear hcz24_4
                      try clear hcz37_0
                      try clear hcz37_1
                      try clear hcz37_2
                      try clear hcz37_3
                      try clear hcz37_4
                      try clear hcz41_0
                      try clear hcz41_1
                      try clear hcz41_2
                      try clear hcz41_3
                      try clear hcz41_4
                      try clear hfz19_0
                      try clear hfz19_1
                      try clear hfz19_2
                      try clear hfz19_3
                      try clear hfz19_4
                      try clear hfz21_0
                      try clear hfz21_1
                      try clear hfz21_2
                      try clear hfz21_3
                      try clear hfz21_4
                      try clear hfz24_0
                      try clear hfz24_1
                      try clear hfz24_2
                      try clear hfz24_3
                      try clear hfz24_4
                      try clear hfz37_0
                      try clear hfz37_1
                      try clear hfz37_2
                      try clear hfz37_3
                      try clear hfz37_4
                      try clear hfz41_0
                      try clear hfz41_1
                      try clear hfz41_2
                      try clear hfz41_3
                      try clear hfz41_4
                      try clear hx667_0
                      try clear hx667_1
                      try clear hx667_2
                      try clear hx667_3
                      try clear hx667_4
                      try clear hx669_0
                      try clear hx694_0
                      try clear hx694_1
                      try clear hx694_2
                      try clear hx694_3
                      try clear hx694_4
                      try clear p2
                      try clear p6
                      try clear p667
                      try clear p669
                      try clear p694
                      try clear q6
                      try clear q667
                      try clear q669
                      try clear q694
                      obtain ⟨kq, x100_42, rfl, HA, HJ42, HO_11, BK686, BK693, HB⟩ := hcut
                      cases kq with
                      | zero => exact absurd HA.out (by simp [cooperagelaw9_IndexFinds.j3])
                      | succ kj42 =>
                        have H := HA.out
                        clear HA
                        simp only [cooperagelaw9_IndexFinds.j3] at H
                        have HC46 := Aside0.mk H
                        clear H
                        go_upto_if 100 with (fail)
                        repeat (go_quiet (fail); go_upto_if 100 with (fail))
                        go_cut [21] (fun v21 wc => ∃ (kq : Nat) (x21_45 : Bool), v21 = .bool x21_45 ∧ Aside0 (cooperagelaw9_IndexFinds.j4 kq a3 x11_2 t685 t692 x21_45 x22_3 x23_3 t680 t681 t682 t683 t684 t687 t688 t689 t690 t691 = some true) ∧ Aside0 (kq ≤ kj42) ∧ Aside0 (Kd.R k34 34 wc w.heap.size (fun k_ => k_ ≠ gb686 ∧ k_ ≠ gb693) (.slice Ao30 x11_2.length co30) x11_2) ∧ Aside0 (wc.heap[gb686]? = some (.cells #[.int .i64 t680, .int .i64 t681, .string t682, .string t683, .bool t684] 34 (0, 0))) ∧ Aside0 (wc.heap[gb693]? = some (.cells #[.int .i64 t687, .int .i64 t688, .string t689, .string t690, .bool t691] 34 (0, 0))) ∧ Aside0 (Below w.heap.size w wc))
                        case first =>
                          have H := HC46.out
                          clear HC46
                          by_cases c47 : x100_42 = true
                          · subst c47
                            have H1 : (if t685 = true then (if 0 ≤ x23_3 then (if x23_3 < (x11_2.length : Int) then (if (!(t680 == ((rd_T34 x11_2 x23_3).f0)) || (!(t681 == ((rd_T34 x11_2 x23_3).f1)) || (!(t682.toList == (((rd_T34 x11_2 x23_3).f2).toList)) || (!(t683.toList == (((rd_T34 x11_2 x23_3).f3).toList)) || (!(t684 == ((rd_T34 x11_2 x23_3).f4))))))) = true then (some false) else (cooperagelaw9_IndexFinds.j4 kj42 a3 x11_2 t685 t692 false x22_3 x23_3 t680 t681 t682 t683 t684 t687 t688 t689 t690 t691)) else (none)) else (none)) else (some false)) = some true := by rw [if_pos rfl] at H; exact H
                            clear H
                            have H := H1
                            clear H1
                            by_cases c48 : t685 = true
                            · subst c48
                              have H1 : (if 0 ≤ x23_3 then (if x23_3 < (x11_2.length : Int) then (if (!(t680 == ((rd_T34 x11_2 x23_3).f0)) || (!(t681 == ((rd_T34 x11_2 x23_3).f1)) || (!(t682.toList == (((rd_T34 x11_2 x23_3).f2).toList)) || (!(t683.toList == (((rd_T34 x11_2 x23_3).f3).toList)) || (!(t684 == ((rd_T34 x11_2 x23_3).f4))))))) = true then (some false) else (cooperagelaw9_IndexFinds.j4 kj42 a3 x11_2 true t692 false x22_3 x23_3 t680 t681 t682 t683 t684 t687 t688 t689 t690 t691)) else (none)) else (none)) = some true := by rw [if_pos rfl] at H; exact H
                              clear H
                              have H := H1
                              clear H1
                              by_cases c49 : 0 ≤ x23_3
                              · rw [if_pos c49] at H
                                have c49b0 : decide (0 ≤ x23_3) = true := decide_eq_true c49
                                clear c49
                                (first | rw [c49b0] | (simp only [i64_w, i32_w]; rw [c49b0]) | skip)
                                by_cases c50 : x23_3 < (x11_2.length : Int)
                                · rw [if_pos c50] at H
                                  have c50b0 : decide (x23_3 < (x11_2.length : Int)) = true := decide_eq_true c50
                                  clear c50
                                  by_cases c51 : (!(t680 == ((rd_T34 x11_2 x23_3).f0)) || (!(t681 == ((rd_T34 x11_2 x23_3).f1)) || (!(t682.toList == (((rd_T34 x11_2 x23_3).f2).toList)) || (!(t683.toList == (((rd_T34 x11_2 x23_3).f3).toList)) || (!(t684 == ((rd_T34 x11_2 x23_3).f4))))))) = true
                                  · rw [if_pos c51] at H
                                    have c51b0 : (!(t680 == ((rd_T34 x11_2 x23_3).f0)) || (!(t681 == ((rd_T34 x11_2 x23_3).f1)) || (!(t682.toList == (((rd_T34 x11_2 x23_3).f2).toList)) || (!(t683.toList == (((rd_T34 x11_2 x23_3).f3).toList)) || (!(t684 == ((rd_T34 x11_2 x23_3).f4))))))) = true := c51
                                    clear c51
                                    exact absurd H (by decide)
                                  · rw [if_neg c51] at H
                                    have c51b0 : (!(t680 == ((rd_T34 x11_2 x23_3).f0)) || (!(t681 == ((rd_T34 x11_2 x23_3).f1)) || (!(t682.toList == (((rd_T34 x11_2 x23_3).f2).toList)) || (!(t683.toList == (((rd_T34 x11_2 x23_3).f3).toList)) || (!(t684 == ((rd_T34 x11_2 x23_3).f4))))))) = false := by simpa using c51
                                    clear c51
                                    have H' := Aside0.mk H
                                    clear H
                                    have hnb54 := NB686_693.out
                                    have hnc54 := NB693_686.out
                                    have hcz55_0 : wc.cell? ⟨gb686, 0, none⟩ = some (.int .i64 t680) := (bC BK686.out 0).trans rfl
                                    have hcz55_1 : wc.cell? ⟨gb686, 1, none⟩ = some (.int .i64 t681) := (bC BK686.out 1).trans rfl
                                    have hcz55_2 : wc.cell? ⟨gb686, 2, none⟩ = some (.string t682) := (bC BK686.out 2).trans rfl
                                    have hcz55_3 : wc.cell? ⟨gb686, 3, none⟩ = some (.string t683) := (bC BK686.out 3).trans rfl
                                    have hcz55_4 : wc.cell? ⟨gb686, 4, none⟩ = some (.bool t684) := (bC BK686.out 4).trans rfl
                                    have hfz55_0 := bF BK686.out 0
                                    have hfz55_1 := bF BK686.out 1
                                    have hfz55_2 := bF BK686.out 2
                                    have hfz55_3 := bF BK686.out 3
                                    have hfz55_4 := bF BK686.out 4
                                    have p695 : 0 ≤ (x23_3 : Int) := of_decide_eq_true (by first | (with_reducible assumption) | assumption)
                                    have q695 : x23_3 < (x11_2.length : Int) := of_decide_eq_true (by first | (with_reducible assumption) | assumption)
                                    obtain ⟨ad695, e695, hx695_0, hx695_1, hx695_2, hx695_3, hx695_4⟩ := at_T34 (Kd.R_reads' HO_11.out).2.2 x23_3 p695 q695
                                    cases e695
                                    replace p695 := eq_true p695
                                    replace q695 := eq_true q695
                                    go_wp2
                                    repeat (go_quiet (fail); try go_wp2)
                                    go_meet
                                    case rel => exact ⟨_, (false), (by first | rfl | (simp; done) | (simp [*]; done)), H', ⟨by have := HJ6.out; have := HK2.out; have := HK3.out; have := HJ42.out; first | omega | exact Nat.le_refl _⟩, ⟨by (with_reducible repeat (first | apply Kd.RA | apply Kd.RN | apply Kd.RD)); exact HO_11.out⟩, ⟨by (with_reducible repeat (first | refine bN ?_ _ | refine bD ?_ | refine bA ?_ _)); exact BK686.out⟩, ⟨by (with_reducible repeat (first | refine bN ?_ _ | refine bD ?_ | refine bA ?_ _)); exact BK693.out⟩, ⟨by repeat (first | (with_reducible first | exact HB.out | apply vA | apply vN | apply vD | refine vS ?_ GE686.out | refine vS ?_ GE693.out) | exact HB.out)⟩⟩
                                · rw [if_neg c50] at H
                                  exact absurd H (by simp)
                              · rw [if_neg c49] at H
                                exact absurd H (by simp)
                            · replace c48 := Bool.eq_false_iff.mpr c48
                              subst c48
                              have H1 : (some false) = some true := by rw [if_neg (show ¬ (false = true) by decide)] at H; exact H
                              clear H
                              have H := H1
                              clear H1
                              exact absurd H (by decide)
                          · replace c47 := Bool.eq_false_iff.mpr c47
                            subst c47
                            have H1 : (cooperagelaw9_IndexFinds.j4 kj42 a3 x11_2 t685 t692 x21_3 x22_3 x23_3 t680 t681 t682 t683 t684 t687 t688 t689 t690 t691) = some true := by rw [if_neg (show ¬ (false = true) by decide)] at H; exact H
                            clear H
                            have H := H1
                            clear H1
                            have H' := Aside0.mk H
                            clear H
                            go_wp2
                            repeat (go_quiet (fail); try go_wp2)
                            go_meet
                            case rel => exact ⟨_, (x21_3), (by first | rfl | (simp; done) | (simp [*]; done)), H', ⟨by have := HJ6.out; have := HK2.out; have := HK3.out; have := HJ42.out; first | omega | exact Nat.le_refl _⟩, ⟨by (with_reducible repeat (first | apply Kd.RA | apply Kd.RN | apply Kd.RD)); exact HO_11.out⟩, ⟨by (with_reducible repeat (first | refine bN ?_ _ | refine bD ?_ | refine bA ?_ _)); exact BK686.out⟩, ⟨by (with_reducible repeat (first | refine bN ?_ _ | refine bD ?_ | refine bA ?_ _)); exact BK693.out⟩, ⟨by repeat (first | (with_reducible first | exact HB.out | apply vA | apply vN | apply vD | refine vS ?_ GE686.out | refine vS ?_ GE693.out) | exact HB.out)⟩⟩
                        case rest =>
                          clear HC46
                          try clear c1
                          try clear p2
                          try clear c4
                          try clear c5
                          try clear p6
                          try clear q6
                          try clear hx6
                          try clear c9
                          try clear c10
                          try clear c11
                          try clear c12
                          try clear c12b0
                          try clear c13
                          try clear c13b0
                          try clear c14
                          try clear c14b0
                          try clear c16
                          try clear c17
                          try clear c40
                          try clear c42
                          try clear c42b0
                          try clear c44
                          try clear c45
                          try clear c45b0
                          try clear c47
                          try clear c48
                          try clear c49
                          try clear c49b0
                          try clear c50
                          try clear c50b0
                          try clear c51
                          try clear c51b0
                          try clear c52
                          try clear c54
                          try clear hcz19_0
                          try clear hcz19_1
                          try clear hcz19_2
                          try clear hcz19_3
                          try clear hcz19_4
                          try clear hcz21_0
                          try clear hcz21_1
                          try clear hcz21_2
                          try clear hcz21_3
                          try clear hcz21_4
                          try clear hcz24_0
                          try clear hcz24_1
                          try clear hcz24_2
                          try clear hcz24_3
                          try clear hcz24_4
                          try clear hcz37_0
                          try clear hcz37_1
                          try clear hcz37_2
                          try clear hcz37_3
                          try clear hcz37_4
                          try clear hcz41_0
                          try clear hcz41_1
                          try clear hcz41_2
                          try clear hcz41_3
                          try clear hcz41_4
                          try clear hcz53_0
                          try clear hcz53_1
                          try clear hcz53_2
                          try clear hcz53_3
                          try clear hcz53_4
                          try clear hcz55_0
                          try clear hcz55_1
                          try clear hcz55_2
                          try clear hcz55_3
                          try clear hcz55_4
                          try clear hfz19_0
                          try clear hfz19_1
                          try clear hfz19_2
                          try clear hfz19_3
                          try clear hfz19_4
                          try clear hfz21_0
                          try clear hfz21_1
                          try clear hfz21_2
                          try clear hfz21_3
                          try clear hfz21_4
                          try clear hfz24_0
                          try clear hfz24_1
                          try clear hfz24_2
                          try clear hfz24_3
                          try clear hfz24_4
                          try clear hfz37_0
                          try clear hfz37_1
                          try clear hfz37_2
                          try clear hfz37_3
                          try clear hfz37_4
                          try clear hfz41_0
                          try clear hfz41_1
                          try clear hfz41_2
                          try clear hfz41_3
                          try clear hfz41_4
                          try clear hfz53_0
                          try clear hfz53_1
                          try clear hfz53_2
                          try clear hfz53_3
                          try clear hfz53_4
                          try clear hfz55_0
                          try clear hfz55_1
                          try clear hfz55_2
                          try clear hfz55_3
                          try clear hfz55_4
                          try clear hx667_0
                          try clear hx667_1
                          try clear hx667_2
                          try clear hx667_3
                          try clear hx667_4
                          try clear hx669_0
                          try clear hx694_0
                          try clear hx694_1
                          try clear hx694_2
                          try clear hx694_3
                          try clear hx694_4
                          try clear hx695_0
                          try clear hx695_1
                          try clear hx695_2
                          try clear hx695_3
                          try clear hx695_4
                          try clear p2
                          try clear p6
                          try clear p667
                          try clear p669
                          try clear p694
                          try clear p695
                          try clear q6
                          try clear q667
                          try clear q669
                          try clear q694
                          try clear q695
                          obtain ⟨kq, x21_45, rfl, HA, HJ45, HO_11, BK686, BK693, HB⟩ := hcut
                          cases kq with
                          | zero => exact absurd HA.out (by simp [cooperagelaw9_IndexFinds.j4])
                          | succ kj45 =>
                            have H := HA.out
                            clear HA
                            simp only [cooperagelaw9_IndexFinds.j4] at H
                            have HC56 := Aside0.mk H
                            clear H
                            go_upto_region 28 with (fail)
                            repeat (go_quiet (fail); go_upto_region 28 with (fail))
                            go_cut [120] (fun v120 wc => ∃ (kq : Nat) (x120_55 : Bool), v120 = .bool x120_55 ∧ Aside0 (cooperagelaw9_IndexFinds.j5 kq a3 x11_2 t685 t692 x21_45 x22_3 x23_3 x120_55 t680 t681 t682 t683 t684 t687 t688 t689 t690 t691 = some true) ∧ Aside0 (kq ≤ kj45) ∧ Aside0 (Kd.R k34 34 wc w.heap.size (fun k_ => k_ ≠ gb686 ∧ k_ ≠ gb693) (.slice Ao30 x11_2.length co30) x11_2) ∧ Aside0 (wc.heap[gb686]? = some (.cells #[.int .i64 t680, .int .i64 t681, .string t682, .string t683, .bool t684] 34 (0, 0))) ∧ Aside0 (wc.heap[gb693]? = some (.cells #[.int .i64 t687, .int .i64 t688, .string t689, .string t690, .bool t691] 34 (0, 0))) ∧ Aside0 (Below w.heap.size w wc))
                            case first =>
                              have H := HC56.out
                              clear HC56
                              by_cases c57 : x22_3 = true
                              · subst c57
                                have H1 : (if 0 ≤ x23_3 then (if x23_3 < (x11_2.length : Int) then (cooperagelaw9_IndexFinds.j5 kj45 a3 x11_2 t685 t692 x21_45 true x23_3 (decide (((rd_T34 x11_2 x23_3).f1) ≥ a3)) t680 t681 t682 t683 t684 t687 t688 t689 t690 t691) else (none)) else (none)) = some true := by rw [if_pos rfl] at H; exact H
                                clear H
                                have H := H1
                                clear H1
                                by_cases c58 : 0 ≤ x23_3
                                · rw [if_pos c58] at H
                                  have c58b0 : decide (0 ≤ x23_3) = true := decide_eq_true c58
                                  clear c58
                                  (first | rw [c58b0] | (simp only [i64_w, i32_w]; rw [c58b0]) | skip)
                                  by_cases c59 : x23_3 < (x11_2.length : Int)
                                  · rw [if_pos c59] at H
                                    have c59b0 : decide (x23_3 < (x11_2.length : Int)) = true := decide_eq_true c59
                                    clear c59
                                    have H' := Aside0.mk H
                                    clear H
                                    have p696 : 0 ≤ (x23_3 : Int) := of_decide_eq_true (by first | (with_reducible assumption) | assumption)
                                    have q696 : x23_3 < (x11_2.length : Int) := of_decide_eq_true (by first | (with_reducible assumption) | assumption)
                                    obtain ⟨ad696, e696, hx696_0, hx696_1, hx696_2, hx696_3, hx696_4⟩ := at_T34 (Kd.R_reads' HO_11.out).2.2 x23_3 p696 q696
                                    cases e696
                                    replace p696 := eq_true p696
                                    replace q696 := eq_true q696
                                    go_wp2
                                    repeat (go_quiet (fail); try go_wp2)
                                    go_meet
                                    case rel => exact ⟨_, (decide (((rd_T34 x11_2 x23_3).f1) ≥ a3)), (by first | rfl | (simp; done) | (simp [*]; done)), H', ⟨by have := HJ6.out; have := HK2.out; have := HK3.out; have := HJ42.out; have := HJ45.out; first | omega | exact Nat.le_refl _⟩, ⟨by (with_reducible repeat (first | apply Kd.RA | apply Kd.RN | apply Kd.RD)); exact HO_11.out⟩, ⟨by (with_reducible repeat (first | refine bN ?_ _ | refine bD ?_ | refine bA ?_ _)); exact BK686.out⟩, ⟨by (with_reducible repeat (first | refine bN ?_ _ | refine bD ?_ | refine bA ?_ _)); exact BK693.out⟩, ⟨by repeat (first | (with_reducible first | exact HB.out | apply vA | apply vN | apply vD | refine vS ?_ GE686.out | refine vS ?_ GE693.out) | exact HB.out)⟩⟩
                                  · rw [if_neg c59] at H
                                    exact absurd H (by simp)
                                · rw [if_neg c58] at H
                                  exact absurd H (by simp)
                              · replace c57 := Bool.eq_false_iff.mpr c57
                                subst c57
                                have H1 : (cooperagelaw9_IndexFinds.j5 kj45 a3 x11_2 t685 t692 x21_45 false x23_3 false t680 t681 t682 t683 t684 t687 t688 t689 t690 t691) = some true := by rw [if_neg (show ¬ (false = true) by decide)] at H; exact H
                                clear H
                                have H := H1
                                clear H1
                                have H' := Aside0.mk H
                                clear H
                                go_wp2
                                repeat (go_quiet (fail); try go_wp2)
                                go_meet
                                case rel => exact ⟨_, (false), (by first | rfl | (simp; done) | (simp [*]; done)), H', ⟨by have := HJ6.out; have := HK2.out; have := HK3.out; have := HJ42.out; have := HJ45.out; first | omega | exact Nat.le_refl _⟩, ⟨by (with_reducible repeat (first | apply Kd.RA | apply Kd.RN | apply Kd.RD)); exact HO_11.out⟩, ⟨by (with_reducible repeat (first | refine bN ?_ _ | refine bD ?_ | refine bA ?_ _)); exact BK686.out⟩, ⟨by (with_reducible repeat (first | refine bN ?_ _ | refine bD ?_ | refine bA ?_ _)); exact BK693.out⟩, ⟨by repeat (first | (with_reducible first | exact HB.out | apply vA | apply vN | apply vD | refine vS ?_ GE686.out | refine vS ?_ GE693.out) | exact HB.out)⟩⟩
                            case rest =>
                              clear HC56
                              try clear c1
                              try clear p2
                              try clear c4
                              try clear c5
                              try clear p6
                              try clear q6
                              try clear hx6
                              try clear c9
                              try clear c10
                              try clear c11
                              try clear c12
                              try clear c12b0
                              try clear c13
                              try clear c13b0
                              try clear c14
                              try clear c14b0
                              try clear c16
                              try clear c17
                              try clear c40
                              try clear c42
                              try clear c42b0
                              try clear c44
                              try clear c45
                              try clear c45b0
                              try clear c47
                              try clear c48
                              try clear c49
                              try clear c49b0
                              try clear c50
                              try clear c50b0
                              try clear c51
                              try clear c51b0
                              try clear c52
                              try clear c54
                              try clear c57
                              try clear c58
                              try clear c58b0
                              try clear c59
                              try clear c59b0
                              try clear hcz19_0
                              try clear hcz19_1
                              try clear hcz19_2
                              try clear hcz19_3
                              try clear hcz19_4
                              try clear hcz21_0
                              try clear hcz21_1
                              try clear hcz21_2
                              try clear hcz21_3
                              try clear hcz21_4
                              try clear hcz24_0
                              try clear hcz24_1
                              try clear hcz24_2
                              try clear hcz24_3
                              try clear hcz24_4
                              try clear hcz37_0
                              try clear hcz37_1
                              try clear hcz37_2
                              try clear hcz37_3
                              try clear hcz37_4
                              try clear hcz41_0
                              try clear hcz41_1
                              try clear hcz41_2
                              try clear hcz41_3
                              try clear hcz41_4
                              try clear hcz53_0
                              try clear hcz53_1
                              try clear hcz53_2
                              try clear hcz53_3
                              try clear hcz53_4
                              try clear hcz55_0
                              try clear hcz55_1
                              try clear hcz55_2
                              try clear hcz55_3
                              try clear hcz55_4
                              try clear hfz19_0
                              try clear hfz19_1
                              try clear hfz19_2
                              try clear hfz19_3
                              try clear hfz19_4
                              try clear hfz21_0
                              try clear hfz21_1
                              try clear hfz21_2
                              try clear hfz21_3
                              try clear hfz21_4
                              try clear hfz24_0
                              try clear hfz24_1
                              try clear hfz24_2
                              try clear hfz24_3
                              try clear hfz24_4
                              try clear hfz37_0
                              try clear hfz37_1
                              try clear hfz37_2
                              try clear hfz37_3
                              try clear hfz37_4
                              try clear hfz41_0
                              try clear hfz41_1
                              try clear hfz41_2
                              try clear hfz41_3
                              try clear hfz41_4
                              try clear hfz53_0
                              try clear hfz53_1
                              try clear hfz53_2
                              try clear hfz53_3
                              try clear hfz53_4
                              try clear hfz55_0
                              try clear hfz55_1
                              try clear hfz55_2
                              try clear hfz55_3
                              try clear hfz55_4
                              try clear hx667_0
                              try clear hx667_1
                              try clear hx667_2
                              try clear hx667_3
                              try clear hx667_4
                              try clear hx669_0
                              try clear hx694_0
                              try clear hx694_1
                              try clear hx694_2
                              try clear hx694_3
                              try clear hx694_4
                              try clear hx695_0
                              try clear hx695_1
                              try clear hx695_2
                              try clear hx695_3
                              try clear hx695_4
                              try clear hx696_0
                              try clear hx696_1
                              try clear hx696_2
                              try clear hx696_3
                              try clear hx696_4
                              try clear p2
                              try clear p6
                              try clear p667
                              try clear p669
                              try clear p694
                              try clear p695
                              try clear p696
                              try clear q6
                              try clear q667
                              try clear q669
                              try clear q694
                              try clear q695
                              try clear q696
                              obtain ⟨kq, x120_55, rfl, HA, HJ55, HO_11, BK686, BK693, HB⟩ := hcut
                              cases kq with
                              | zero => exact absurd HA.out (by simp [cooperagelaw9_IndexFinds.j5])
                              | succ kj55 =>
                                have H := HA.out
                                clear HA
                                simp only [cooperagelaw9_IndexFinds.j5] at H
                                by_cases c60 : x120_55 = true
                                · subst c60
                                  have H1 : (if t692 = true then (if 0 ≤ x23_3 then (if x23_3 < (x11_2.length : Int) then (if (!(t687 == ((rd_T34 x11_2 x23_3).f0)) || (!(t688 == ((rd_T34 x11_2 x23_3).f1)) || (!(t689.toList == (((rd_T34 x11_2 x23_3).f2).toList)) || (!(t690.toList == (((rd_T34 x11_2 x23_3).f3).toList)) || (!(t691 == ((rd_T34 x11_2 x23_3).f4))))))) = true then (some false) else (cooperagelaw9_IndexFinds.l1 kj55 a3 x11_2 t685 t692 x21_45 false (wrap64 (x23_3 + 1)) t680 t681 t682 t683 t684 t687 t688 t689 t690 t691)) else (none)) else (none)) else (some false)) = some true := by rw [if_pos rfl] at H; exact H
                                  clear H
                                  have H := H1
                                  clear H1
                                  by_cases c61 : t692 = true
                                  · subst c61
                                    have H1 : (if 0 ≤ x23_3 then (if x23_3 < (x11_2.length : Int) then (if (!(t687 == ((rd_T34 x11_2 x23_3).f0)) || (!(t688 == ((rd_T34 x11_2 x23_3).f1)) || (!(t689.toList == (((rd_T34 x11_2 x23_3).f2).toList)) || (!(t690.toList == (((rd_T34 x11_2 x23_3).f3).toList)) || (!(t691 == ((rd_T34 x11_2 x23_3).f4))))))) = true then (some false) else (cooperagelaw9_IndexFinds.l1 kj55 a3 x11_2 t685 true x21_45 false (wrap64 (x23_3 + 1)) t680 t681 t682 t683 t684 t687 t688 t689 t690 t691)) else (none)) else (none)) = some true := by rw [if_pos rfl] at H; exact H
                                    clear H
                                    have H := H1
                                    clear H1
                                    by_cases c62 : 0 ≤ x23_3
                                    · rw [if_pos c62] at H
                                      have c62b0 : decide (0 ≤ x23_3) = true := decide_eq_true c62
                                      clear c62
                                      by_cases c63 : x23_3 < (x11_2.length : Int)
                                      · rw [if_pos c63] at H
                                        have c63b0 : decide (x23_3 < (x11_2.length : Int)) = true := decide_eq_true c63
                                        clear c63
                                        by_cases c64 : (!(t687 == ((rd_T34 x11_2 x23_3).f0)) || (!(t688 == ((rd_T34 x11_2 x23_3).f1)) || (!(t689.toList == (((rd_T34 x11_2 x23_3).f2).toList)) || (!(t690.toList == (((rd_T34 x11_2 x23_3).f3).toList)) || (!(t691 == ((rd_T34 x11_2 x23_3).f4))))))) = true
                                        · rw [if_pos c64] at H
                                          have c64b0 : (!(t687 == ((rd_T34 x11_2 x23_3).f0)) || (!(t688 == ((rd_T34 x11_2 x23_3).f1)) || (!(t689.toList == (((rd_T34 x11_2 x23_3).f2).toList)) || (!(t690.toList == (((rd_T34 x11_2 x23_3).f3).toList)) || (!(t691 == ((rd_T34 x11_2 x23_3).f4))))))) = true := c64
                                          clear c64
                                          exact absurd H (by decide)
                                        · rw [if_neg c64] at H
                                          have c64b0 : (!(t687 == ((rd_T34 x11_2 x23_3).f0)) || (!(t688 == ((rd_T34 x11_2 x23_3).f1)) || (!(t689.toList == (((rd_T34 x11_2 x23_3).f2).toList)) || (!(t690.toList == (((rd_T34 x11_2 x23_3).f3).toList)) || (!(t691 == ((rd_T34 x11_2 x23_3).f4))))))) = false := by simpa using c64
                                          clear c64
                                          have H' := Aside0.mk H
                                          clear H
                                          have hnb67 := NB693_686.out
                                          have hnc67 := NB686_693.out
                                          have hcz68_0 : wc.cell? ⟨gb693, 0, none⟩ = some (.int .i64 t687) := (bC BK693.out 0).trans rfl
                                          have hcz68_1 : wc.cell? ⟨gb693, 1, none⟩ = some (.int .i64 t688) := (bC BK693.out 1).trans rfl
                                          have hcz68_2 : wc.cell? ⟨gb693, 2, none⟩ = some (.string t689) := (bC BK693.out 2).trans rfl
                                          have hcz68_3 : wc.cell? ⟨gb693, 3, none⟩ = some (.string t690) := (bC BK693.out 3).trans rfl
                                          have hcz68_4 : wc.cell? ⟨gb693, 4, none⟩ = some (.bool t691) := (bC BK693.out 4).trans rfl
                                          have hfz68_0 := bF BK693.out 0
                                          have hfz68_1 := bF BK693.out 1
                                          have hfz68_2 := bF BK693.out 2
                                          have hfz68_3 := bF BK693.out 3
                                          have hfz68_4 := bF BK693.out 4
                                          have p697 : 0 ≤ (x23_3 : Int) := of_decide_eq_true (by first | (with_reducible assumption) | assumption)
                                          have q697 : x23_3 < (x11_2.length : Int) := of_decide_eq_true (by first | (with_reducible assumption) | assumption)
                                          obtain ⟨ad697, e697, hx697_0, hx697_1, hx697_2, hx697_3, hx697_4⟩ := at_T34 (Kd.R_reads' HO_11.out).2.2 x23_3 p697 q697
                                          cases e697
                                          replace p697 := eq_true p697
                                          replace q697 := eq_true q697
                                          go_wp2
                                          repeat (go_quiet (fail); try go_wp2)
                                          go_roundg kj55
                                          case measure => have := HJ6.out; have := HK2.out; have := HK3.out; have := HJ42.out; have := HJ45.out; have := HJ55.out; omega
                                          case rel => exact ⟨(x21_45), (false), (wrap64 (x23_3 + 1)), (by first | rfl | (simp; done) | (simp [*]; done)), (by first | rfl | (simp; done) | (simp [*]; done)), (by first | rfl | (simp; done) | (simp [*]; done)), H', ⟨by have := HJ6.out; have := HK2.out; have := HK3.out; have := HJ42.out; have := HJ45.out; have := HJ55.out; omega⟩, ⟨by (with_reducible repeat (first | apply Kd.RA | apply Kd.RN | apply Kd.RD)); exact HO_11.out⟩, ⟨by (with_reducible repeat (first | refine bN ?_ _ | refine bD ?_ | refine bA ?_ _)); exact BK686.out⟩, ⟨by (with_reducible repeat (first | refine bN ?_ _ | refine bD ?_ | refine bA ?_ _)); exact BK693.out⟩, ⟨by repeat (first | (with_reducible first | exact HB.out | apply vA | apply vN | apply vD | refine vS ?_ GE686.out | refine vS ?_ GE693.out) | exact HB.out)⟩⟩
                                      · rw [if_neg c63] at H
                                        exact absurd H (by simp)
                                    · rw [if_neg c62] at H
                                      exact absurd H (by simp)
                                  · replace c61 := Bool.eq_false_iff.mpr c61
                                    subst c61
                                    have H1 : (some false) = some true := by rw [if_neg (show ¬ (false = true) by decide)] at H; exact H
                                    clear H
                                    have H := H1
                                    clear H1
                                    exact absurd H (by decide)
                                · replace c60 := Bool.eq_false_iff.mpr c60
                                  subst c60
                                  have H1 : (cooperagelaw9_IndexFinds.l1 kj55 a3 x11_2 t685 t692 x21_45 x22_3 (wrap64 (x23_3 + 1)) t680 t681 t682 t683 t684 t687 t688 t689 t690 t691) = some true := by rw [if_neg (show ¬ (false = true) by decide)] at H; exact H
                                  clear H
                                  have H := H1
                                  clear H1
                                  have H' := Aside0.mk H
                                  clear H
                                  go_wp2
                                  repeat (go_quiet (fail); try go_wp2)
                                  go_roundg kj55
                                  case measure => have := HJ6.out; have := HK2.out; have := HK3.out; have := HJ42.out; have := HJ45.out; have := HJ55.out; omega
                                  case rel => exact ⟨(x21_45), (x22_3), (wrap64 (x23_3 + 1)), (by first | rfl | (simp; done) | (simp [*]; done)), (by first | rfl | (simp; done) | (simp [*]; done)), (by first | rfl | (simp; done) | (simp [*]; done)), H', ⟨by have := HJ6.out; have := HK2.out; have := HK3.out; have := HJ42.out; have := HJ45.out; have := HJ55.out; omega⟩, ⟨by (with_reducible repeat (first | apply Kd.RA | apply Kd.RN | apply Kd.RD)); exact HO_11.out⟩, ⟨by (with_reducible repeat (first | refine bN ?_ _ | refine bD ?_ | refine bA ?_ _)); exact BK686.out⟩, ⟨by (with_reducible repeat (first | refine bN ?_ _ | refine bD ?_ | refine bA ?_ _)); exact BK693.out⟩, ⟨by repeat (first | (with_reducible first | exact HB.out | apply vA | apply vN | apply vD | refine vS ?_ GE686.out | refine vS ?_ GE693.out) | exact HB.out)⟩⟩
                  · rw [if_neg c42] at H
                    have c42b0 : decide (x23_3 < (x11_2.length : Int)) = false := decide_eq_false c42
                    clear c42
                    by_cases c69 : (t685 == (!x21_3)) = true
                    · rw [if_pos c69] at H
                      have c69b0 : (t685 == (!x21_3)) = true := c69
                      (try (have c69b1 : decide (t685 = (!x21_3)) = true := by simpa using c69))
                      (try (have c69b2 : (t685 == (!x21_3)) = true := by simpa using c69))
                      clear c69
                      have hH_ := Option.some.inj H; (try subst hH_)
                      go_wp2
                      repeat (go_quiet (fail); try go_wp2)
                      go_ret
                      exact ⟨by first | rfl | (simp [*, eN, eS] <;> rfl) | (simp [eN, eS]; generalize ByteArray.toList _ = l_; cases l_ <;> rfl), by repeat (first | (with_reducible first | exact HB.out | apply vA | apply vN | apply vD | refine vS ?_ GE686.out | refine vS ?_ GE693.out) | exact HB.out)⟩
                    · rw [if_neg c69] at H
                      have c69b0 : (t685 == (!x21_3)) = false := by simpa using c69
                      (try (have c69b1 : decide (t685 = (!x21_3)) = false := by simpa using c69))
                      (try (have c69b2 : (t685 == (!x21_3)) = false := by simpa using c69))
                      (try (have c69b3 : ¬ (t685 = (!x21_3)) := by simpa using c69))
                      clear c69
                      exact absurd H (by decide)

end Go.Proofs.Ytphnolgneojdhaa.V
